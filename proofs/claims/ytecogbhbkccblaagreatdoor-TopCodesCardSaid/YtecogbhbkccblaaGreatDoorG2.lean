/- Own layer: equality of structs of plain cells.
   Own layer: functions that write blocks of their caller's.
   Own layer: more operations: division, slices of slices, copy, clear, comparisons with nil.
   Own layer: regions whose order is open, with operations that only yield values and operations that make or write memory.
   Plain: ordered lists without doubles.
   Own layer: arguments of struct and slice-of-struct types (pairs of integers), opened to what they hold; they read behind the call as before.
   Own layer: arguments that are slices of integers.
   Own layer: rows of structs, whatever their fields: reading an element, a part, the list with one more.
   Own layer: open regions with effects and a store at the end, on which everything waits: what is read ahead of it may be what it writes.
   Own layer: copy within a block of the walk's own.
   Own layer: rows again; blocks picked out of the memory.
   Own layer: loops that keep what is known of some slots; calls whose value alone matters.
   Own layer: a string's bytes as a slice; more on calls.
   Own layer: loops walked round by round.
   Own layer: open regions with effects and a store (or an append) at the end, on which everything waits, straight or by others. -/
import Derived.Laws.StructEq
import Derived.WalkKit
import Derived.Deep.SlicePairs
import Derived.Lib.SmallJoins
import Derived.ChangeOld
import Derived.Below
import Derived.OpenShut
import Derived.ReadAgain
import Derived.ChangeSlices
import Derived.Lib.ConvBytes
import Derived.LoopNIn
import Derived.Test.YtecogbhbkccblaaGreatDoorG1
set_option linter.all false
namespace Go.Proofs.YtecogbhbkccblaaGreatDoor
open Go.RowKit

inductive Leaf where
  | int (k : IntKind)
  | bool
  | str
def Leaf.ty : Leaf → TypeDesc
  | .int k => .int k
  | .bool => .bool
  | .str => .string
def fitsB : List Leaf → List Value → Bool
  | [], [] => true
  | .int k :: ks, .int k' _ :: vs => decide (k = k') && fitsB ks vs
  | .bool :: ks, .bool _ :: vs => fitsB ks vs
  | .str :: ks, .string _ :: vs => fitsB ks vs
  | _, _ => false
def cellEq : Value → Value → Bool
  | .int _ a, .int _ b => decide (a = b)
  | .bool a, .bool b => decide (a = b)
  | .string a, .string b => decide (a = b)
  | _, _ => false
def eqCells : List Value → List Value → Bool
  | x :: xs, y :: ys => cellEq x y && eqCells xs ys
  | _, _ => true
inductive FlatF (P : Program) : Nat → List Field → List Leaf → Prop
  | nil {i} : FlatF P i [] []
  | cons {i f fs k ks} (ho : f.offset = i) (hn : f.name ≠ "_") (h1 : ∀ w, (isAgg f.type).run P w = .ok false w) (hk : P.underlying f.type = some k.ty) (h : FlatF P (i + 1) fs ks) : FlatF P i (f :: fs) (k :: ks)
class FlatEq (P : Program) (t : TypeId) (ks : outParam (List Leaf)) : Prop where
  u : P.underlying t = some (.struct (P.fieldsOf t))
  fs : FlatF P 0 (P.fieldsOf t).toList ks
  held : P.stoodInHeld t = false
  guard : P.eqGuardType P.depth t = false

theorem run_part_leaf {P : Program} {t off : Nat} {w : World} {xs : List Value} {v : Value} (h1 : ∀ w, (isAgg t).run P w = .ok false w) (hv : xs[off]? = some v) : (part t xs.toArray off).run P w = .ok v w := by
  simp [part, h1, hv]
theorem run_eqFields {P : Program} {d : Nat} {w : World} {xs ys : List Value} {i : Nat} {fs : List Field} {ks : List Leaf} (hf : FlatF P i fs ks) : fitsB ks (xs.drop i) = true → fitsB ks (ys.drop i) = true →
    (Op.eqFields (d + 1) xs.toArray ys.toArray fs).run P w = .ok (eqCells (xs.drop i) (ys.drop i)) w := by
  induction hf with
  | nil =>
    intro hx hy
    rename_i i
    have : xs.drop i = [] := by
      cases h : xs.drop i with
      | nil => rfl
      | cons a l => rw [h] at hx; simp [fitsB] at hx
    rw [this]
    simp [Op.eqFields, eqCells]
  | @cons i f fs k ks ho hn h1 hk h ih =>
    intro hx hy
    cases hxd : xs.drop i with
    | nil => rw [hxd] at hx; cases k <;> simp [fitsB] at hx
    | cons a xs' =>
      cases hyd : ys.drop i with
      | nil => rw [hyd] at hy; cases k <;> simp [fitsB] at hy
      | cons b ys' =>
        have hxa : xs[i]? = some a := by have := congrArg (fun l => l[0]?) hxd; simpa using this
        have hyb : ys[i]? = some b := by have := congrArg (fun l => l[0]?) hyd; simpa using this
        have hxs : xs.drop (i + 1) = xs' := by rw [← List.drop_drop, hxd]; rfl
        have hys : ys.drop (i + 1) = ys' := by rw [← List.drop_drop, hyd]; rfl
        rw [hxd] at hx
        rw [hyd] at hy
        rw [hxs, hys] at ih
        have fin : ∀ r : Bool, (Op.equalIn (d + 1) f.type a b).run P w = .ok r w → cellEq a b = r → fitsB ks xs' = true → fitsB ks ys' = true → (Op.eqFields (d + 1) xs.toArray ys.toArray (f :: fs)).run P w = .ok (eqCells (a :: xs') (b :: ys')) w := by
          intro r hr hc h3 h4
          subst ho
          simp only [Op.eqFields, if_pos hn, Sem.run_bind, run_part_leaf h1 hxa, run_part_leaf h1 hyb, Result.andThen_ok, hr, eqCells, hc]
          cases r
          · simp
          · simp [ih h3 h4]
        cases k with
        | int k =>
          cases a <;> simp [fitsB] at hx
          cases b <;> simp [fitsB] at hy
          obtain ⟨rfl, hx⟩ := hx
          obtain ⟨rfl, hy⟩ := hy
          exact fin _ (run_equalIn_int w d f.type _ _ _ _ hk) (by simp [cellEq]; rfl) hx hy
        | bool =>
          cases a <;> simp [fitsB] at hx
          cases b <;> simp [fitsB] at hy
          exact fin _ (run_equalIn_bool' w d f.type _ _ hk) (by simp [cellEq]; rfl) hx hy
        | str =>
          cases a <;> simp [fitsB] at hx
          cases b <;> simp [fitsB] at hy
          exact fin _ (run_equalIn_string w d f.type _ _ hk) (by simp only [cellEq, ← ba_eq]) hx hy

section
variable {P : Program} {e : Env} {l : List (Nat × Obj)} {H : Hp} {dst : Option Tmp} {ty : TypeId} {pos : String} {after : Array Edge} {gd : Option (Nat × Bool)}
theorem PV.aeql {t t' : TypeId} {ks : List Leaf} [ht : FlatEq P t ks] {x y : Operand} {xs ys : List Value} (hx : evE e x = some (.agg xs.toArray)) (hy : evE e y = some (.agg ys.toArray)) (h1 : fitsB ks xs = true) (h2 : fitsB ks ys = true) :
    PV P e l H ⟨dst, .binOp .eql t x y t', ty, pos, after, gd⟩ (.bool (eqCells xs ys)) := PV.mk fun X D a w ha hw => by
  have := run_eqFields (P := P) (d := 9998) (w := w) ht.fs (xs := xs) (ys := ys) (by simpa using h1) (by simpa using h2)
  simp only [List.drop_zero] at this
  simp [execOp, ha.eval hx, ha.eval hy, run_eqGuard_agg w .eql t x y xs.toArray ys.toArray ht.guard, run_eql_struct, run_equalIn_struct w 9999 t xs.toArray ys.toArray ht.u ht.held, this]
end
end Go.Proofs.YtecogbhbkccblaaGreatDoor
namespace Go.Proofs.YtecogbhbkccblaaGreatDoor
open Go.RowKit

def own0 (l0 : List (Nat × Obj)) : Nat → Prop := fun b => b ∉ l0.map (·.1)
/-- How a function that may write the blocks l0 ends. -/
def FnRW (w : World) (H : Hp) (l0 : List (Nat × Obj)) (R : Value → Hp → List (Nat × Obj) → Prop) : Ending → World → Prop := fun en w' =>
  ∃ v H' l', en = .returned v ∧ (X0.mk w H (own0 l0)).wd l' H' w' ∧ R v H' l'
def FnW (P : Program) (f : FuncId) (args : Array Value) (H : Hp) (l0 : List (Nat × Obj)) (R : Value → Hp → List (Nat × Obj) → Prop) : Prop :=
  ∀ w, (X0.mk w H (own0 l0)).wd l0 H w → CallsIn Fence.wide 0 P f args w (FnRW w H l0 R)

/-- Some blocks out of a list. -/
inductive Pick : List (Nat × Obj) → List (Nat × Obj) → List (Nat × Obj) → Prop
  | nil {l} : Pick l [] l
  | take {p l l0 r} : Pick l l0 r → Pick (p :: l) (p :: l0) r
  | leave {p l l0 r} : Pick l l0 r → Pick (p :: l) l0 (p :: r)
  | app {x l l0 r} : Pick l l0 r → Pick (x ++ l) l0 (x ++ r)
  | all {l} : Pick l l []
  | takeA {x l l0 r} : Pick l l0 r → Pick (x ++ l) (x ++ l0) r
  | allA {l r} : Pick (l ++ r) l r
theorem Pick.perm {l l0 r : List (Nat × Obj)} (h : Pick l l0 r) : (l0 ++ r).Perm l := by
  induction h with
  | nil => exact List.Perm.refl _
  | take _ ih => exact ih.cons _
  | @leave p l l0 r _ ih => exact List.perm_middle.trans (ih.cons _)
  | @app x l l0 r _ ih =>
    rw [← List.append_assoc]
    exact ((List.perm_append_comm).append_right r).trans (by rw [List.append_assoc]; exact ih.append_left x)
  | all => rw [List.append_nil]
  | @takeA x l l0 r _ ih => rw [List.append_assoc]; exact ih.append_left x
  | allA => exact List.Perm.refl _

section
variable {P : Program} {X : Cx} {e : Env} {l : List (Nat × Obj)} {H : Hp} {D : List Deferred} {k : List It}
variable {ty : TypeId} {pos : String} {after : Array Edge} {gd : Option (Nat × Bool)} {all : Array Oper} {rest : List Oper}

theorem Wd.start {l0 r : List (Nat × Obj)} {w : World} (h : Wd X (l0 ++ r) H w) : (X0.mk w H (own0 l0)).wd l0 H w := by
  refine ⟨fun p hp => ?_, ?_, h.fro, Keep.refl _ _, Hp.le.refl _, fun _ _ _ => rfl⟩
  · obtain ⟨h1, h2, _⟩ := h.own p (List.mem_append_left _ hp)
    exact ⟨h1, h2, fun _ hn => hn (List.mem_map.2 ⟨p, hp, rfl⟩)⟩
  · have := h.nd
    rw [List.map_append] at this
    exact (List.nodup_append.1 this).1
theorem Wd.back {l0 r l' : List (Nat × Obj)} {H' : Hp} {w w' : World} (h : Wd X (l0 ++ r) H w) (h' : (X0.mk w H (own0 l0)).wd l' H' w') : Wd X (l' ++ r) H' w' := by
  have hnd := h.nd
  rw [List.map_append] at hnd
  obtain ⟨n1, n2, n3⟩ := List.nodup_append.1 hnd
  have hlow : ∀ b, b < X.w1.heap.size → X.Pt b → own0 l0 b := by
    intro b hb hp hm
    obtain ⟨q, hq, he⟩ := List.mem_map.1 hm
    have := (h.own q (List.mem_append_left _ hq)).2.2
    rw [he] at this
    exact this hb hp
  refine ⟨fun p hp => ?_, ?_, h'.fro, ⟨h'.keep.os.trans h.keep.os, h'.keep.tape.trans h.keep.tape, h'.keep.output.trans h.keep.output, Nat.le_trans h.keep.size h'.keep.size, Nat.le_trans h.keep.drawn h'.keep.drawn, fun b hb hp => ?_⟩, h.le.trans h'.le, fun b hb hp => ?_⟩
  · rcases List.mem_append.1 hp with hp | hp
    · obtain ⟨a1, a2, a3⟩ := h'.own p hp
      refine ⟨a1, a2, fun hlt hpt => ?_⟩
      exact a3 (Nat.lt_of_lt_of_le hlt h.keep.size) (hlow _ hlt hpt)
    · obtain ⟨a1, a2, a3⟩ := h.own p (List.mem_append_right _ hp)
      have hlt := h.lt (List.mem_append_right _ hp)
      have ho : own0 l0 p.1 := fun hm => n3 p.1 hm p.1 (List.mem_map.2 ⟨p, hp, rfl⟩) rfl
      exact ⟨(h'.keep.block _ hlt ho).trans a1, (h'.ext _ hlt ho).trans a2, a3⟩
  · rw [List.map_append]
    refine List.nodup_append.2 ⟨h'.nd, n2, ?_⟩
    intro a ha b hb hab
    subst hab
    obtain ⟨p, hp, rfl⟩ := List.mem_map.1 ha
    obtain ⟨q, hq, he⟩ := List.mem_map.1 hb
    have hlt := h.lt (List.mem_append_right _ hq)
    rw [he] at hlt
    refine (h'.own p hp).2.2 hlt fun hm => ?_
    exact n3 p.1 hm p.1 hb rfl
  · exact (h'.keep.block b (Nat.lt_of_lt_of_le hb h.keep.size) (hlow b hb hp)).trans (h.keep.block b hb hp)
  · exact (h'.ext b (Nat.lt_of_lt_of_le hb h.keep.size) (hlow b hb hp)).trans (h.ext b hb hp)

theorem FnW.mono {f : FuncId} {args : Array Value} {l0 : List (Nat × Obj)} {R R' : Value → Hp → List (Nat × Obj) → Prop} (h : FnW P f args H l0 R) (hr : ∀ v H' l', R v H' l' → R' v H' l') : FnW P f args H l0 R' :=
  fun w hw => (h w hw).mono fun en w' ⟨v, H', l', h1, h2, h3⟩ => ⟨v, H', l', h1, h2, hr v H' l' h3⟩
theorem T.enterW {o : Oper} {d : Nat} {f : FuncId} {args : Array Value} {l0 r : List (Nat × Obj)} {R : Value → Hp → List (Nat × Obj) → Prop} (hw : Wanted e all o) (hd : o.dst = some d) (hN : Nat.blt d X.N = true)
    (hrun : ∀ a w, Ea X e D a → (execOp a.eval o).run P w = .ok (.enter f args) w) (hpk : Pick l l0 r) (hf : FnW P f args H l0 R)
    (h : ∀ v H' l', H.le H' → R v H' l' → T P X ((d, v) :: e) (l' ++ r) H' D (.ops all rest :: k)) : T P X e l H D (.ops all (o :: rest) :: k) := T.mk fun a w ha hw' => by
  refine wpList_cons (hw.get X D a ha) ?_
  rw [run_semAt (hrun a w ha) (fun _ => by simp), Oper.uponIn_enter]
  refine ⟨fun hd => by simp [Fw, Fence.wide] at hd, ?_⟩
  have hwp := hw'.perm hpk.perm
  have hc : CallsIn (Fw X.ro) 0 P f args w (FnRW w H l0 R) := hf w hwp.start
  refine hc.mono ?_
  rintro en w' ⟨v, H', l', rfl, h2, h3⟩
  rw [hd]
  exact (h v H' l' h2.le h3).get _ w' (ha.put (by simpa using hN) v) (hwp.back h2)
/-- A call of a named function that writes blocks of the caller's. -/
theorem T.callW {d : Nat} {f : FuncId} [hE : Ent P f] {xs : List Operand} {ts : Array TypeId} {vs : List Value} {l0 r : List (Nat × Obj)} {R : Value → Hp → List (Nat × Obj) → Prop} (hw : Wanted e all ⟨some d, .call ⟨.value (.func f), xs.toArray, ts⟩, ty, pos, after, gd⟩) (hN : Nat.blt d X.N = true)
    (hv : evL e xs = some vs) (hf : FnW P f vs.toArray H l0 R) (hpk : Pick l l0 r)
    (h : ∀ v H' l', H.le H' → R v H' l' → T P X ((d, v) :: e) (l' ++ r) H' D (.ops all rest :: k)) :
    T P X e l H D (.ops all (⟨some d, .call ⟨.value (.func f), xs.toArray, ts⟩, ty, pos, after, gd⟩ :: rest) :: k) :=
  T.enterW (d := d) hw rfl hN (fun a w ha => by
    have := evL_map ha xs vs hv
    have hE' := hE.h (xs.map a.eval).toArray w
    rw [this] at hE'
    simp [execOp, resolve, Act.eval, Deferred.ofValue, invoke, List.map_toArray, this, hE']) hpk hf h
/-- .. that gives one value and one state of the blocks. -/
theorem T.callWV {d : Nat} {f : FuncId} [hE : Ent P f] {xs : List Operand} {ts : Array TypeId} {vs : List Value} {l0 r l1 : List (Nat × Obj)} {v : Value} (hw : Wanted e all ⟨some d, .call ⟨.value (.func f), xs.toArray, ts⟩, ty, pos, after, gd⟩) (hN : Nat.blt d X.N = true)
    (hv : evL e xs = some vs) (hf : FnW P f vs.toArray H l0 (fun u H' l' => u = v ∧ H' = H ∧ l' = l1)) (hpk : Pick l l0 r)
    (h : T P X ((d, v) :: e) (l1 ++ r) H D (.ops all rest :: k)) :
    T P X e l H D (.ops all (⟨some d, .call ⟨.value (.func f), xs.toArray, ts⟩, ty, pos, after, gd⟩ :: rest) :: k) :=
  T.callW hw hN hv hf hpk fun u H' l' _ h' => by obtain ⟨rfl, rfl, rfl⟩ := h'; exact h

/-- The beginning and the end of such a function. -/
def fnXW (P : Program) (fn : Func) (w : World) (H : Hp) (l0 : List (Nat × Obj)) (R : Value → Hp → List (Nat × Obj) → Prop) : Cx :=
  { ro := none, N := fn.ntmps, w1 := w, H0 := H, Pt := own0 l0, Q := bodyPostM Fence.wide 0 P fn (FnRW w H l0 R) }
theorem FnW.of_T {f : FuncId} {fn : Func} {c : Code} {vs : List Value} {l0 : List (Nat × Obj)} {R : Value → Hp → List (Nat × Obj) → Prop} (hf : P.funcs[f]? = some fn) (hb : fn.body = some c) (hs : Nat.ble vs.length fn.ntmps = true)
    (h : ∀ w, T P (fnXW P fn w H l0 R) (argE 0 vs) l0 H [] [.code c]) : FnW P f vs.toArray H l0 R := fun w hw => by
  refine callsIn_of_wp_marks hf hb trivial ?_
  have hle : vs.length ≤ fn.ntmps := Nat.le_of_ble_eq_true hs
  have := (h w).get { tmps := vs.toArray ++ Array.replicate (fn.ntmps - vs.toArray.size) undef, defers := [] } w ⟨by simp [fnXW]; omega, fun i v hi => ?_, rfl⟩ (hw.re rfl rfl rfl)
  · exact this
  · obtain ⟨_, h2⟩ := argE_get vs 0 i v hi
    rw [Nat.sub_zero] at h2
    have hlt := (List.getElem?_eq_some_iff.1 h2).1
    rw [Array.getElem?_append_left (by simpa using hlt)]
    simpa using h2
theorem T.retW {fn : Func} {w0 : World} {H0 : Hp} {l0 : List (Nat × Obj)} {R : Value → Hp → List (Nat × Obj) → Prop} (h : Lv P (fnXW P fn w0 H0 l0 R) fn (FnRW w0 H0 l0 R) e l H D) : T P (fnXW P fn w0 H0 l0 R) e l H D (.code .ret :: k) :=
  T.ret fun a w ha hw => by
    show LeavesInM _ _ _ _ _ _ a.defers _ _
    rw [ha.dfr]; exact h.get D a w ha hw
theorem T.fallW {fn : Func} {w0 : World} {H0 : Hp} {l0 : List (Nat × Obj)} {R : Value → Hp → List (Nat × Obj) → Prop} (h : Lv P (fnXW P fn w0 H0 l0 R) fn (FnRW w0 H0 l0 R) e l H D) : T P (fnXW P fn w0 H0 l0 R) e l H D [] :=
  T.fall fun a w ha hw => by
    show LeavesInM _ _ _ _ _ _ a.defers _ _
    rw [ha.dfr]; exact h.get D a w ha hw
theorem Lv.finW {fn : Func} {w0 : World} {H0 : Hp} {l0 : List (Nat × Obj)} {R : Value → Hp → List (Nat × Obj) → Prop} {v : Value} (l' : List (Nat × Obj)) (hl : List.Sublist l' l) (hr : RV P fn e l H v) (hR : R v H l') : Lv P (fnXW P fn w0 H0 l0 R) fn (FnRW w0 H0 l0 R) e l H [] :=
  Lv.mk fun D0 a w ha hw => ⟨v, hr.get _ _ a w ha hw, v, H, l', rfl, (hw.sub hl).re rfl rfl rfl, hR⟩
end
theorem FnW.mk {P : Program} {f : FuncId} {args : Array Value} {H : Hp} {l0 : List (Nat × Obj)} {R : Value → Hp → List (Nat × Obj) → Prop} (h : ∀ w, (X0.mk w H (own0 l0)).wd l0 H w → CallsIn Fence.wide 0 P f args w (FnRW w H l0 R)) : FnW P f args H l0 R := h
attribute [irreducible] FnW
end Go.Proofs.YtecogbhbkccblaaGreatDoor
namespace Go.Proofs.YtecogbhbkccblaaGreatDoor
open Go.RowKit

section
variable {P : Program} {X : Cx} {e : Env} {l : List (Nat × Obj)} {H : Hp} {D : List Deferred} {k : List It}
variable {dst : Option Tmp} {ty : TypeId} {pos : String} {after : Array Edge} {gd : Option (Nat × Bool)} {all : Array Oper} {rest : List Oper}

theorem PV.rem {x y : Operand} {t t' : TypeId} {kk : IntKind} {m n : Int} (hx : evE e x = some (.int kk m)) (hy : evE e y = some (.int kk n)) (hn : n ≠ 0) :
    PV P e l H ⟨dst, .binOp .rem t x y t', ty, pos, after, gd⟩ (.int kk (m.tmod n)) := PV.mk fun X D a w ha hw => by
  simp [execOp, ha.eval hx, ha.eval hy, binOp, eqGuard, Op.intDiv, hn]
theorem PV.quo {x y : Operand} {t t' : TypeId} {m n : Int} (hx : evE e x = some (.int .i64 m)) (hy : evE e y = some (.int .i64 n)) (hn : n ≠ 0) (hr : -9223372036854775808 ≤ m.tdiv n ∧ m.tdiv n ≤ 9223372036854775807) :
    PV P e l H ⟨dst, .binOp .quo t x y t', ty, pos, after, gd⟩ (.int .i64 (m.tdiv n)) := PV.mk fun X D a w ha hw => by
  simp [execOp, ha.eval hx, ha.eval hy, binOp, eqGuard, Op.intDiv, hn, wrap64_id hr]

theorem run_slNilIn {t el sz : Nat} [hs : SlOf P t el sz] (d : Nat) (ad : Option Addr) (n cap : Nat) (w : World) : (Op.equalIn (d + 1) t (.slice ad n cap) (.slice none 0 0)).run P w = .ok ad.isNone w := by
  cases ad <;> simp [Op.equalIn, run_underlying hs.h]
theorem run_slNil {t el sz : Nat} [hs : SlOf P t el sz] (ad : Option Addr) (n cap : Nat) (w : World) : (Op.equal t (.slice ad n cap) (.slice none 0 0)).run P w = .ok ad.isNone w := run_slNilIn 9999 ad n cap w
theorem run_eqlNil {t el sz : Nat} [hs : SlOf P t el sz] (ad : Option Addr) (n cap : Nat) (w : World) : (binOp .eql t (.slice ad n cap) (.slice none 0 0)).run P w = .ok (.bool ad.isNone) w := by
  simp only [binOp]
  simp [run_slNil]
theorem PV.slNilR {t t' el sz : Nat} [hs : SlOf P t el sz] {x y : Operand} {ad : Option Addr} {n cap : Nat} (hx : evE e x = some (.slice ad n cap)) (hy : evE e y = some (.slice none 0 0)) :
    PV P e l H ⟨dst, .binOp .eql t x y t', ty, pos, after, gd⟩ (.bool ad.isNone) := PV.mk fun X D a w ha hw => by
  have h1 := run_eqlNil (P := P) (t := t) ad n cap w
  simp [execOp, ha.eval hx, ha.eval hy, eqGuard, h1]
theorem addr_add (b o n : Nat) : (⟨b, o, none⟩ : Addr).add n = ⟨b, o + n, none⟩ := by unfold Addr.add; split <;> simp_all
/-! ### slices of slices -/
/-- The value of x[lo:hi]. -/
def slV (sz : Nat) (ad : Option Addr) (lo hi cap : Nat) : Value := .slice (if cap = lo then ad else ad.map (·.add (lo * sz))) (hi - lo) (cap - lo)
theorem PV.sliceLH {t el sz : Nat} [hs : SlOf P t el sz] {x y z : Operand} {ad : Option Addr} {n cap : Nat} {lo hi : Int} (hx : evE e x = some (.slice ad n cap)) (hy : evE e y = some (.int .i64 lo)) (hz : evE e z = some (.int .i64 hi)) (h0 : 0 ≤ lo ∧ lo ≤ hi ∧ hi ≤ cap) :
    PV P e l H ⟨dst, .slice t x (some y) (some z) none, ty, pos, after, gd⟩ (slV sz ad lo.toNat hi.toNat cap) := PV.mk fun X D a w ha hw => by
  have e1 : 0 ≤ hi ∧ hi ≤ (cap : Int) := by omega
  have e2 : 0 ≤ lo ∧ lo ≤ (hi.toNat : Int) := by omega
  simp [execOp, ha.eval hx, ha.eval hy, ha.eval hz, Instr.sliceAt, Instr.slice, Instr.sliceBounds, Instr.sliceBound, asIntOf, run_underlying hs.h, hs.s, e1, e2, slV]
  intro hh; omega
theorem PV.sliceL {t el sz : Nat} [hs : SlOf P t el sz] {x y : Operand} {ad : Option Addr} {n cap : Nat} {lo : Int} (hx : evE e x = some (.slice ad n cap)) (hy : evE e y = some (.int .i64 lo)) (h0 : 0 ≤ lo ∧ lo ≤ n) :
    PV P e l H ⟨dst, .slice t x (some y) none none, ty, pos, after, gd⟩ (slV sz ad lo.toNat n cap) := PV.mk fun X D a w ha hw => by
  simp [execOp, ha.eval hx, ha.eval hy, Instr.sliceAt, Instr.slice, Instr.sliceBounds, Instr.sliceBound, asIntOf, run_underlying hs.h, hs.s, h0, slV]
theorem PV.sliceH {t el sz : Nat} [hs : SlOf P t el sz] {x z : Operand} {ad : Option Addr} {n cap : Nat} {hi : Int} (hx : evE e x = some (.slice ad n cap)) (hz : evE e z = some (.int .i64 hi)) (h0 : 0 ≤ hi ∧ hi ≤ cap) :
    PV P e l H ⟨dst, .slice t x none (some z) none, ty, pos, after, gd⟩ (.slice ad hi.toNat cap) := PV.mk fun X D a w ha hw => by
  have e3 : ∀ a : Addr, a.add 0 = a := by intro a; unfold Addr.add; split <;> simp_all
  simp [execOp, ha.eval hx, ha.eval hz, Instr.sliceAt, Instr.slice, Instr.sliceBounds, Instr.sliceBound, asIntOf, run_underlying hs.h, hs.s, h0, e3]
theorem PV.sliceHM {t el sz : Nat} [hs : SlOf P t el sz] {x z u : Operand} {ad : Option Addr} {n cap : Nat} {hi mx : Int} (hx : evE e x = some (.slice ad n cap)) (hz : evE e z = some (.int .i64 hi)) (hu : evE e u = some (.int .i64 mx)) (h0 : 0 ≤ hi ∧ hi ≤ mx ∧ mx ≤ cap) :
    PV P e l H ⟨dst, .slice t x none (some z) (some u), ty, pos, after, gd⟩ (.slice ad hi.toNat mx.toNat) := PV.mk fun X D a w ha hw => by
  have e1 : 0 ≤ mx ∧ mx ≤ (cap : Int) := by omega
  have e2 : 0 ≤ hi ∧ hi ≤ (mx.toNat : Int) := by omega
  have e3 : ∀ a : Addr, a.add 0 = a := by intro a; unfold Addr.add; split <;> simp_all
  simp [execOp, ha.eval hx, ha.eval hz, ha.eval hu, Instr.sliceAt, Instr.slice, Instr.sliceBounds, Instr.sliceBound, asIntOf, run_underlying hs.h, hs.s, e1, e2, e3]
  intro hh; omega

theorem PV.sliceLP {t el sz : Nat} [hs : SlOf P t el sz] {x y : Operand} {b o n cap : Nat} {lo : Int} (hx : evE e x = some (.slice (some ⟨b, o, none⟩) n cap)) (hy : evE e y = some (.int .i64 lo)) (h0 : 0 ≤ lo ∧ lo ≤ n ∧ lo < cap) :
    PV P e l H ⟨dst, .slice t x (some y) none none, ty, pos, after, gd⟩ (.slice (some ⟨b, o + lo.toNat * sz, none⟩) (n - lo.toNat) (cap - lo.toNat)) := by
  have h := PV.sliceL (P := P) (l := l) (H := H) (dst := dst) (ty := ty) (pos := pos) (after := after) (gd := gd) (t := t) (el := el) (sz := sz) hx hy ⟨h0.1, h0.2.1⟩
  unfold slV at h
  rw [if_neg zO] at h
  simpa [addr_add] using h
theorem SlR.slice {sz : Nat} {ad : Option Addr} {n cap : Nat} {xs : List Value} (h : SlR H sz (.slice ad n cap) n xs) {lo hi : Nat} (h1 : lo ≤ hi) (h2 : hi ≤ n) : SlR H sz (slV sz ad lo hi cap) (hi - lo) ((xs.drop (lo * sz)).take ((hi - lo) * sz)) := by
  have hl : ((xs.drop (lo * sz)).take ((hi - lo) * sz)).length = (hi - lo) * sz := by
    rw [List.length_take, List.length_drop, h.1]
    have : hi * sz ≤ n * sz := Nat.mul_le_mul_right _ h2
    rw [Nat.sub_mul]; omega
  refine ⟨hl, ?_⟩
  rcases h.2 with ⟨_, rfl⟩ | ⟨b, off, cap', cs, t, fz, hv, hb, hx, hcap⟩
  · left
    have e1 : hi = 0 := by omega
    have e2 : lo = 0 := by omega
    subst e1 e2
    exact ⟨⟨_, _, rfl⟩, rfl⟩
  · injection hv with e1 e2 e3
    subst e1 e3
    by_cases hc : cap = lo
    · have hz : hi - lo = 0 := by omega
      left; rw [hz]; exact ⟨⟨_, _, by unfold slV; rw [hz]⟩, rfl⟩
    · right
      refine ⟨b, off + lo * sz, cap - lo, cs, t, fz, ?_, hb, ?_, by omega⟩
      · unfold slV; rw [if_neg hc]; simp [addr_add]
      · rw [← hx, ← List.drop_drop, List.drop_take, List.take_take]
        congr 1
        rw [← Nat.sub_mul]
        exact (Nat.min_eq_left (Nat.mul_le_mul_right _ zO)).symm
theorem range_rep {s : Nat} {z : List Value} (hz : z.length = s) : ∀ n : Nat, (List.range (n * s)).map (fun i => z[i % s]!) = (List.replicate n z).flatten
  | 0 => by simp
  | n + 1 => by
    have h1 := range_rep hz n
    rw [Nat.add_mul, Nat.one_mul, List.range_add, List.map_append, h1, List.replicate_succ', List.flatten_concat]
    congr 1
    rw [List.map_map]
    refine List.ext_getElem? fun i => ?_
    rw [List.getElem?_map]
    by_cases hi : i < s
    · rw [List.getElem?_range hi, Option.map_some]
      have : (n * s + i) % s = i := by rw [Nat.add_comm, Nat.add_mul_mod_self_right]; exact Nat.mod_eq_of_lt hi
      show some (z[(n * s + i) % s]!) = _
      rw [this, List.getElem?_eq_getElem zO, getElem!_pos z i zO]
    · rw [List.getElem?_eq_none (by simp; omega), List.getElem?_eq_none zO]; rfl
theorem T.makeSliceN {t el sz bytes d : Nat} [hs : SlOf P t el sz] [he : ElOf P el sz bytes] {z : List Value} [hzo : ZeroOf P el z] {x y : Operand} {n : Nat}
    (hw : Wanted e all ⟨some d, .makeSlice t x y, ty, pos, after, gd⟩) (hN : Nat.blt d X.N = true) (hx : evE e x = some (.int .i64 (n : Int))) (hy : evE e y = some (.int .i64 (n : Int))) (hc : (n : Int) ≤ 140737488355328 ∧ (bytes : Int) * n ≤ 140737488355328)
    (h : ∀ v lv, Vec el sz v lv n (List.replicate n z).flatten → T P X ((d, v) :: e) (lv ++ l) H D (.ops all rest :: k)) :
    T P X e l H D (.ops all (⟨some d, .makeSlice t x y, ty, pos, after, gd⟩ :: rest) :: k) :=
  T.step hw rfl hN fun a w ha hw' => by
    obtain ⟨i, z1, hi, hz, hsz, hby, hzs, hpos⟩ := he.h
    obtain ⟨zv, hz2, hz3⟩ := hzo.h
    have hzz : z1 = zv := by
      have h1 := hz2 w
      simp [zeroValue, typeInfo, hi, hz] at h1
      exact h1
    subst hzz
    have hzl : z.length = i.size := by rw [hsz, ← hzs, hz3]; simp
    have hwr : IntKind.i64.wrap (n : Int) = n := wrap64_id zO
    subst hsz hby
    have hb1 : ¬ (281474976710656 < (i.bytes : Int) * n) := by omega
    have hb2 : ¬ ((n : Int) < 0) := by omega
    have hcs : (if n * i.size = 0 then (#[] : Array Value) else ((Array.range (n * i.size)).map (z1.cells[· % z1.cells.size]!))) = ((List.replicate n z).flatten).toArray := by
      split
      · rename_i h0
        have : n = 0 := by
          rcases Nat.mul_eq_zero.1 h0 with h | h
          · exact h
          · omega
        subst this; rfl
      · rw [← range_rep hzl n, hz3]
        apply Array.ext'
        simp [hzl]
    have hcl : ((List.replicate n z).flatten).length = n * i.size := by
      rw [← range_rep hzl n]; simp
    refine ⟨.slice (some ⟨w.heap.size, 0, none⟩) n n, [(w.heap.size, .cells ((List.replicate n z).flatten).toArray el)] ++ l, H, w.alloc (.cells ((List.replicate n z).flatten).toArray el), ?_, hw'.alloc _, h _ _ ⟨hcl, .inr ⟨_, n, _, rfl, rfl, Nat.le_refl _, by unfold maxLen; omega, hcl, by rw [← hcl]; exact List.take_length⟩⟩⟩
    simp [execOp, Instr.makeSlice, ha.eval hx, ha.eval hy, run_underlying hs.h, asInt, asIntOf, typeInfo, hi, hwr, hb1, hb2, sizeOf]
    by_cases h0 : n * i.size = 0
    · rw [if_pos h0] at hcs
      simp [h0, newRow, ← hcs, show Array.range 0 = #[] from rfl]
    · rw [if_neg h0] at hcs
      simp [h0, newRow, zeroValue, typeInfo, hi, hz, ← hcs]
end
end Go.Proofs.YtecogbhbkccblaaGreatDoor
namespace Go.Proofs.YtecogbhbkccblaaGreatDoor
open Go.RowKit

section
variable {P : Program} {ops : Array Oper} {md : Region.Mode} {ro : Option Nat} {C : World → Prop}

theorem Oper.wpIn_monoQ {F : Fence} {n : Nat} {o : Oper} {a : Act} {w : World} {K : Act → World → Prop} {Q Q' : Exit → Act → World → Prop} (h : ∀ e a w, (e ≠ .normal) → Q e a w → Q' e a w)
    (hh : o.wpIn F n P a w K Q) : o.wpIn F n P a w K Q' := by
  unfold Oper.wpIn at *
  refine ⟨hh.1, ?_⟩
  have hh := hh.2
  generalize (o.semAt F.round a.eval).run P w = r at *
  cases r with
  | ok x w' =>
    cases x <;> simp only [Oper.uponIn] at hh ⊢ <;>
      first
        | exact hh
        | exact ⟨hh.1, CallsIn.mono hh.2 (fun e w'' he => by cases e <;> first | exact he | exact h _ _ _ (by simp) he | (obtain ⟨a1, w1, h1⟩ := he; exact ⟨a1, w1, h _ _ _ (by simp) h1⟩))⟩
        | exact ⟨hh.1, RowsIn.mono hh.2 (fun _ _ he => he)⟩
        | exact ⟨hh.1, RoundIn.mono hh.2 (fun e w'' he => by cases e <;> first | exact he | exact h _ _ _ (by simp) he | (obtain ⟨a1, w1, h1⟩ := he; exact ⟨a1, w1, h _ _ _ (by simp) h1⟩))⟩
  | halt x w' => cases x <;> simp only [Oper.uponIn] at hh ⊢ <;> first | exact hh | exact h _ _ _ (by simp) hh
theorem wpOpIn_monoQ {F : Fence} {n : Nat} {i : Nat} {a : Act} {w : World} {K : Act → World → Prop} {Q Q' : Exit → Act → World → Prop} (h : ∀ e a w, (e ≠ .normal) → Q e a w → Q' e a w)
    (hh : wpOpIn F n P ops Q i K a w) : wpOpIn F n P ops Q' i K a w := by
  unfold wpOpIn at *
  split
  · simpa [*] using hh
  · rename_i o ho
    simp only [ho] at hh
    split
    · rename_i hw; simp only [hw, if_true] at hh; exact Oper.wpIn_monoQ h hh
    · rename_i hw; simp only [hw] at hh; exact hh

/-- All orders, the class of worlds kept; no panic. -/
def wpAnyC (ro : Option Nat) (P : Program) (md : Region.Mode) (ops : Array Oper) (C : World → Prop) (Q : Act → World → Prop) : Nat → Array Bool → Act → World → Prop
  | 0, listed, a, w => C w ∧ Region.ready md ops listed = [] ∧ Q a w
  | fuel + 1, listed, a, w => C w ∧ (Region.ready md ops listed = [] → Q a w) ∧
    ∀ i ∈ Region.ready md ops listed, wpOpIn (Fw ro) 0 P ops (fun _ _ _ => False) i (wpAnyC ro P md ops C Q fuel (listed.setIfInBounds i true)) a w
theorem wpAnyC.cls {Q : Act → World → Prop} {fuel : Nat} {listed : Array Bool} {a : Act} {w : World} (h : wpAnyC ro P md ops C Q fuel listed a w) : C w := by
  cases fuel <;> exact h.1
theorem wpAnyC.any {Q : Act → World → Prop} {Q' : Post} (hQ : ∀ a w, Q a w → Q' .normal a w) : ∀ {fuel : Nat} {listed : Array Bool} {a : Act} {w : World}, wpAnyC ro P md ops C Q fuel listed a w → wpAnyIn (Fw ro) 0 P md ops Q' fuel listed a w
  | 0, _, _, _, h => ⟨h.2.1, hQ _ _ h.2.2⟩
  | _ + 1, _, _, _, h => ⟨fun h0 => hQ _ _ (h.2.1 h0), fun i hi => wpOpIn_monoQ (fun _ _ _ _ hf => hf.elim) (wpOpIn_mono (fun _ _ hk => hk.any hQ) (h.2.2 i hi))⟩

def YieldsC (P : Program) (ops : Array Oper) (C : World → Prop) (o : Oper) (v : Value) (a : Act) : Prop :=
  (Region.wanted o (yielded ops a.tmps) = true ∧ ∀ w, C w → (execOp a.eval o).run P w = .ok (.value v) w) ∨ (Region.wanted o (yielded ops a.tmps) = false ∧ v = undef)
theorem YieldsC.of_same {o : Oper} {v : Value} {a a' : Act} (hy : YieldsC P ops C o v a) (he : execOp a'.eval o = execOp a.eval o)
    (hw : Region.wanted o (yielded ops a'.tmps) = Region.wanted o (yielded ops a.tmps)) : YieldsC P ops C o v a' := by
  unfold YieldsC at *
  rw [he, hw]
  exact hy
theorem YieldsC.wpOpIn {Q : Post} {i : Nat} {o : Oper} {v : Value} {a : Act} (hd : ∀ c, o.op ≠ .defer c) (hi : ops[i]? = some o) (hy : YieldsC P ops C o v a)
    {K : Act → World → Prop} {w : World} (hC : C w) (h : K (a.put o.dst v) w) : wpOpIn (Fw ro) 0 P ops Q i K a w := by
  unfold Go.wpOpIn
  simp only [hi]
  have hab : ∀ f, o.about P w a.eval = some f → (Fw ro).fn f := fun f hf => trivial
  rcases hy with ⟨hw, hv⟩ | ⟨hw, rfl⟩
  · simp only [hw, if_true, Oper.wpIn, Oper.semAt_eq _ _ _ hd, hv w hC, Oper.uponIn]; exact ⟨hab, h⟩
  · simp only [hw, Bool.false_eq_true, if_false]; exact ⟨hab, h⟩
theorem wpOpIn_putC {Q : Post} {j : Nat} {oi oj : Oper} {v : Value} (hdj : ∀ c, oj.op ≠ .defer c) (hj : ops[j]? = some oj) (hap : oi.apart ops oj = true)
    (hsi : ∀ cs b, oi.op ≠ .select cs b) (hsj : ∀ cs b, oj.op ≠ .select cs b)
    (hQ : ∀ c a w, Q (.panic c) (a.put oi.dst v) w → Q (.panic c) a w) {K : Act → World → Prop} {a : Act} {w : World}
    (hy : YieldsC P ops C oi v a) (h : wpOpIn (Fw ro) 0 P ops Q j K (a.put oi.dst v) w) :
    wpOpIn (Fw ro) 0 P ops Q j (fun a' w' => YieldsC P ops C oi v a' ∧ K (a'.put oi.dst v) w') a w := by
  obtain ⟨h1, h2, h3⟩ := Oper.apart_spec hap
  have keep : ∀ (a : Act), YieldsC P ops C oi v a → ∀ u, YieldsC P ops C oi v (a.put oj.dst u) := fun a hy u =>
    hy.of_same (execOp_put oi hsi a oj.dst u h3) (wanted_put oi a oj.dst u h3)
  unfold wpOpIn at *
  simp only [hj] at *
  rw [wanted_put oj a oi.dst v h1, about_put oj w a oi.dst v h1] at h
  split
  · rename_i hw
    simp only [hw, if_true] at h
    unfold Oper.wpIn at *
    rw [about_put oj w a oi.dst v h1] at h
    refine ⟨h.1, ?_⟩
    have h := h.2
    rw [Oper.semAt_eq _ _ _ hdj, execOp_put oj hsj a oi.dst v h1] at h
    rw [Oper.semAt_eq _ _ _ hdj]
    generalize (execOp a.eval oj).run P w = r at *
    cases r with
    | ok x w' =>
      cases x <;> simp only [Oper.uponIn] at h ⊢
      case value u => exact ⟨keep a hy u, by rw [← Act.put_comm a v u h2]; exact h⟩
      case skip => exact ⟨keep a hy _, by rw [← Act.put_comm a v undef h2]; exact h⟩
      case defer d =>
        refine ⟨keep { a with defers := d :: a.defers } (hy.of_same rfl rfl) undef, ?_⟩
        rw [← Act.put_comm _ v undef h2, ← Act.put_defers]
        exact h
      case enter f args =>
        refine ⟨h.1, CallsIn.mono h.2 fun e w'' he => ?_⟩
        cases e with
        | returned u => exact ⟨keep a hy u, by rw [← Act.put_comm a v u h2]; exact he⟩
        | panicked c => exact hQ _ _ _ he
        | outgrown => exact he
      case row row args => exact ⟨h.1, RowsIn.mono h.2 fun u w'' he => ⟨keep a hy u, by rw [← Act.put_comm a v u h2]; exact he⟩⟩
      case round l f tmps assign body =>
        refine ⟨h.1, RoundIn.mono h.2 fun e w'' he => ?_⟩
        cases e with
        | returned u => exact ⟨keep a hy u, by rw [← Act.put_comm a v u h2]; exact he⟩
        | panicked c => exact hQ _ _ _ he
        | outgrown => exact he
    | halt x w' =>
      cases x <;> simp only [Oper.uponIn] at h ⊢
      case panic u => exact hQ _ _ _ h
  · rename_i hw
    simp only [hw] at h
    exact ⟨h.1, keep a hy _, by rw [← Act.put_comm a v undef h2]; exact h.2⟩
def noDefer (ops : Array Oper) : Bool := ops.all fun o => match o.op with | .defer _ => false | .select .. => false | _ => true
theorem noDefer_spec (h : noDefer ops = true) {j : Nat} {o : Oper} (ho : ops[j]? = some o) : (∀ c, o.op ≠ .defer c) ∧ ∀ cs b, o.op ≠ .select cs b := by
  have := Array.all_eq_true_iff_forall_mem.1 h o (Array.mem_of_getElem? ho)
  exact ⟨fun c e => by simp [e] at this, fun cs b e => by simp [e] at this⟩
/-- An operation that only yields a value may be taken first. -/
theorem wpAnyC_first {Q : Act → World → Prop} {i : Nat} {oi : Oper} {v : Value} (hi : ops[i]? = some oi) (hnd : noDefer ops = true) :
    ∀ (fuel : Nat) (listed : Array Bool) (a : Act) (w : World),
      (∀ j oj, ops[j]? = some oj → j ≠ i → listed.getD j true = false → (∀ e ∈ oj.after, Region.binds md e = true → e.on ≠ i) → oi.apart ops oj = true) →
      i ∈ Region.ready md ops listed → YieldsC P ops C oi v a →
      wpAnyC ro P md ops C Q fuel (listed.setIfInBounds i true) (a.put oi.dst v) w → wpAnyC ro P md ops C Q (fuel + 1) listed a w := by
  intro fuel
  induction fuel with
  | zero =>
    intro listed a w _ hr hy H
    refine ⟨H.cls, (fun h => by rw [h] at hr; cases hr), fun j hj => ?_⟩
    by_cases hji : j = i
    · subst hji; exact hy.wpOpIn (noDefer_spec hnd hi).1 hi H.cls H
    · have := ready_mono hj hji
      rw [H.2.1] at this
      cases this
  | succ fuel ih =>
    intro listed a w hfree hr hy H
    refine ⟨H.cls, (fun h => by rw [h] at hr; cases hr), fun j hj => ?_⟩
    by_cases hji : j = i
    · subst hji; exact hy.wpOpIn (noDefer_spec hnd hi).1 hi H.cls H
    · have h1 := H.2.2 j (ready_mono hj hji)
      obtain ⟨hjun, oj, hoj, hall⟩ := mem_ready.1 hj
      have hnot : ∀ e ∈ oj.after, Region.binds md e = true → e.on ≠ i := fun e he hb heq => by
        have h1 := hall e he hb
        have h0 := (mem_ready.1 hr).1
        rw [heq] at h1
        rcases Nat.lt_or_ge i listed.size with h' | h'
        · simp [h'] at h0 h1; rw [h0] at h1; cases h1
        · simp [Array.getElem?_eq_none h'] at h1
      have h2 := wpOpIn_putC (C := C) (noDefer_spec hnd hoj).1 hoj (hfree j oj hoj hji hjun hnot) (noDefer_spec hnd hi).2 (noDefer_spec hnd hoj).2 (fun _ _ _ hf => hf) hy h1
      have hfree' : ∀ k ok, ops[k]? = some ok → k ≠ i → (listed.setIfInBounds j true).getD k true = false →
          (∀ e ∈ ok.after, Region.binds md e = true → e.on ≠ i) → oi.apart ops ok = true := fun k ok hk hki hun hno => by
        refine hfree k ok hk hki ?_ hno
        by_cases hjk : j = k
        · subst hjk; exact hjun
        · rw [getD_set_ne true hjk] at hun; exact hun
      refine wpOpIn_mono (fun a' w' h3 => ih (listed.setIfInBounds j true) a' w' hfree' (ready_mono hr (Ne.symm hji)) h3.1 ?_) h2
      rw [Array.setIfInBounds_comm _ _ hji]
      exact h3.2
end

section
variable {P : Program} {X : Cx} {e : Env} {l : List (Nat × Obj)} {H : Hp} {D : List Deferred} {k : List It} {ops : Array Oper}
/-- The class of worlds of a region: these blocks are not written in it. -/
def Cls (lc : List (Nat × Obj)) (Hc : Hp) : World → Prop := fun w => (X0.mk w Hc (own0 lc)).wd lc Hc w
def Cx.safe (X : Cx) : Cx := { X with Q := fun _ _ _ => False }
def TO (P : Program) (X : Cx) (e : Env) (l : List (Nat × Obj)) (H : Hp) (D : List Deferred) (ops : Array Oper) (lc : List (Nat × Obj)) (Hc : Hp) (fuel : Nat) (listed : Array Bool) (k : List It) : Prop :=
  ∀ a w, Ea X e D a → Wd X l H w → wpAnyC X.ro P .any ops (Cls lc Hc) (fun a w => wpK P X.ro X.Q k .normal a w) fuel listed a w
theorem cls_of {lc : List (Nat × Obj)} {Hc : Hp} {w : World} (h : Wd X l H w) (hl : List.Sublist lc l) (hH : Hc.le H) : Cls lc Hc w := by
  have h' := h.sub hl
  refine ⟨fun p hp => ?_, h'.nd, fun b o hb => h'.fro b o (hH b o hb), Keep.refl _ _, Hp.le.refl _, fun _ _ _ => rfl⟩
  obtain ⟨h1, h2, _⟩ := h'.own p hp
  refine ⟨h1, ?_, fun _ hn => hn (List.mem_map.2 ⟨p, hp, rfl⟩)⟩
  cases hc : Hc p.1 with
  | none => rfl
  | some o => rw [hH _ _ hc] at h2; cases h2
theorem T.regionO {id : Nat} {os : List Oper} [hm : Mixed P] (lc : List (Nat × Obj)) (hnd : noDefer os.toArray = true) (h : TO P X e l H D os.toArray lc H os.length (Array.replicate os.length false) k) :
    T P X e l H D (.code (.region id os.toArray true) :: k) := T.mk fun a w ha hw => by
  show (Code.region id os.toArray true).wpIn (Fw X.ro) 0 P _ a w
  refine wpIn_region_any hm.h ?_
  have := (h a w.drew ha hw.drew).any (Q' := wpK P X.ro X.Q k) (fun _ _ h => h)
  simpa using this
theorem T.regionOl {id : Nat} {os : List Oper} [hm : Mixed P] (hnd : noDefer os.toArray = true) (h : TO P X e l H D os.toArray l H os.length (Array.replicate os.length false) k) :
    T P X e l H D (.code (.region id os.toArray true) :: k) := T.regionO l hnd h
/-- Take an operation that only yields a value. -/
theorem TO.take {lc : List (Nat × Obj)} {Hc : Hp} {fuel d : Nat} {listed : Array Bool} {o : Oper} {v : Value} (i : Nat) (hi : ops[i]? = some o) (hnd : noDefer ops = true) (hr : (Region.ready .any ops listed).contains i = true) (hf : Region.free .any ops listed i = true)
    (hv : PV P e lc Hc o v) (hw : Wanted e ops o) (hd : o.dst = some d) (hN : Nat.blt d X.N = true) (h : TO P X ((d, v) :: e) l H D ops lc Hc fuel (listed.setIfInBounds i true) k) :
    TO P X e l H D ops lc Hc (fuel + 1) listed k := fun a w ha hw' => by
  refine wpAnyC_first (v := v) hi hnd fuel listed a w (Region.free_spec hi hf) (by simpa using hr) (.inl ⟨hw.get X D a ha, fun w2 hC => ?_⟩) ?_
  · exact hv.get { X with w1 := w2, H0 := Hc, Pt := own0 lc } D a w2 ⟨ha.size, ha.get, ha.dfr⟩ (hC.re rfl rfl rfl)
  · rw [hd]; exact h _ w (ha.put (by simpa using hN) v) hw'
theorem TO.pass {lc : List (Nat × Obj)} {Hc : Hp} {fuel d : Nat} {listed : Array Bool} {o : Oper} (i : Nat) (hi : ops[i]? = some o) (hnd : noDefer ops = true) (hr : (Region.ready .any ops listed).contains i = true) (hf : Region.free .any ops listed i = true)
    (hw : Unwanted e ops o) (hd : o.dst = some d) (hN : Nat.blt d X.N = true) (h : TO P X ((d, undef) :: e) l H D ops lc Hc fuel (listed.setIfInBounds i true) k) :
    TO P X e l H D ops lc Hc (fuel + 1) listed k := fun a w ha hw' => by
  refine wpAnyC_first (v := undef) hi hnd fuel listed a w (Region.free_spec hi hf) (by simpa using hr) (.inr ⟨hw.get X D a ha, rfl⟩) ?_
  rw [hd]; exact h _ w (ha.put (by simpa using hN) undef) hw'
/-- What the rest of a region comes to. -/
def TOJ (P : Program) (X : Cx) (ops : Array Oper) (lc : List (Nat × Obj)) (Hc : Hp) (fuel : Nat) (listed : Array Bool) (k : List It) : Act → World → Prop :=
  fun a w => wpAnyC X.ro P .any ops (Cls lc Hc) (fun a w => wpK P X.ro X.Q k .normal a w) fuel listed a w
/-- The one operation that may come now. -/
theorem TO.step {lc : List (Nat × Obj)} {Hc : Hp} {fuel : Nat} {listed : Array Bool} {o : Oper} (i : Nat) (hi : ops[i]? = some o) (hr : Region.ready .any ops listed = [i]) (hl : List.Sublist lc l) (hH : Hc.le H)
    (h : T P X.safe e l H D [.ops ops [o], .done (TOJ P X ops lc Hc fuel (listed.setIfInBounds i true) k)]) : TO P X e l H D ops lc Hc (fuel + 1) listed k := fun a w ha hw' => by
  refine ⟨cls_of hw' hl hH, (fun h0 => by rw [hr] at h0; cases h0), fun j hj => ?_⟩
  rw [hr] at hj
  obtain rfl := List.mem_singleton.1 hj
  have h1 := h.get a w ⟨ha.size, ha.get, ha.dfr⟩ (hw'.re rfl rfl rfl)
  have h2 : wpListIn (Fw X.ro) 0 P ops (wpK P X.ro X.safe.Q [.done (TOJ P X ops lc Hc fuel (listed.setIfInBounds j true) k)]) [o] a w := h1
  unfold wpOpIn
  simp only [hi]
  simp only [wpListIn] at h2
  split
  · rename_i hw
    simp only [hw, if_true] at h2
    exact Oper.wpIn_monoQ (fun e a w hn he => by cases e <;> first | exact absurd rfl hn | exact he) h2
  · rename_i hw
    simp only [hw] at h2
    exact h2
theorem TO.back {lc : List (Nat × Obj)} {Hc : Hp} {fuel : Nat} {listed : Array Bool} (h : TO P X e l H D ops lc Hc fuel listed k) : T P X.safe e l H D [.done (TOJ P X ops lc Hc fuel listed k)] :=
  T.done fun a w ha hw => h a w ⟨ha.size, ha.get, ha.dfr⟩ (hw.re rfl rfl rfl)
theorem TO.done {lc : List (Nat × Obj)} {Hc : Hp} {listed : Array Bool} (hr : Region.ready .any ops listed = []) (hl : List.Sublist lc l) (hH : Hc.le H) (h : T P X e l H D k) : TO P X e l H D ops lc Hc 0 listed k :=
  fun a w ha hw => ⟨cls_of hw hl hH, hr, h.get a w ha hw⟩
end
attribute [irreducible] TO TOJ
end Go.Proofs.YtecogbhbkccblaaGreatDoor
namespace Go.Proofs.YtecogbhbkccblaaGreatDoor

end Go.Proofs.YtecogbhbkccblaaGreatDoor
namespace Go.Proofs.YtecogbhbkccblaaGreatDoor
open Go.RowKit Go.ChangeShapes Go.WideShapes Go.Joins Go.Deep

section
variable {H : Type} {enc : TypeId × Value → H} {P : Program} {w : World} {base : Nat} {spare : Nat → Bool} {held : Bool}
/-- What reads before the call reads behind it. -/
theorem trod_behind {w' : World} (bel : Below w.heap.size w w') {t : TypeId} {v : Value} {d : DataW H} {p : List MemPlace} (h : DataW.Trod enc P w base spare held t v d p) : DataW.Trod enc P w' base spare held t v d p := by
  obtain ⟨n, hn⟩ := h
  exact ⟨n, DataW.trod_carry n _ _ _ hn fun q hq => bel.same (DataW.trod_lt n _ _ _ hn q hq)⟩
theorem trodAll_behind {w' : World} (bel : Below w.heap.size w w') : ∀ {ts : List TypeId} {vs : List Value} {ds : List (DataW H)} {ps : List MemPlace}, DataW.TrodAll enc P w base spare held ts vs ds ps → DataW.TrodAll enc P w' base spare held ts vs ds ps
  | [], _, _, _, h => by obtain ⟨rfl, rfl, rfl⟩ := trodAll_nil h; exact trodAll_mk0
  | _ :: _, _, _, _, h => by
    obtain ⟨v, vs, d, ds, p, p', rfl, rfl, rfl, h1, h2⟩ := trodAll_cons h
    exact trodAll_cons_mk (trod_behind bel h1) (trodAll_behind bel h2)
/-- The arguments read behind the call as they read before. -/
theorem args_behind (hl : laidOutB P = true) (hm : mapsRowed P = true) (hz : ((List.range P.types.size).all fun t => match P.underlying t with | some (.slice e) => decide (0 < P.cellsOf e) | _ => true) = true)
    {w' : World} (bel : Below w.heap.size w w') {ts : List TypeId} {vs : List Value} {ds : List (DataW H)} {ps : List MemPlace} (hts : (ts.all fun t => decide (t < P.types.size)) = true)
    (h : DataW.TrodAll enc P w 0 (fun _ => true) true ts vs ds ps) : DataW.TrodAll enc P w' 0 (fun b => decide (b < w.heap.size)) true ts vs ds ps :=
  trodAll_behind bel (DataW.TrodAll.respare (kids_rows hl hm) (slices_full_of P hz) (fun t ht => of_decide_eq_true (List.all_eq_true.1 hts t ht)) h fun p hp => decide_eq_true (DataW.TrodAll.lt h p hp))
theorem cells_at {b o : Nat} {sp : Option Nat} {v : Value} (h : w.cell? ⟨b, o, sp⟩ = some v) : sp = none ∧ ∃ (cs : List Value) (t : TypeId) (fz : Nat × Nat), w.heap[b]? = some (.cells cs.toArray t fz) ∧ cs[o]? = some v := by
  unfold World.cell? at h
  dsimp only at h
  cases hb : w.heap[b]? with
  | none => rw [hb] at h; cases h
  | some ob =>
    rw [hb] at h
    cases ob with
    | cells c t fz =>
      dsimp only at h
      cases sp with
      | none => exact ⟨rfl, c.toList, t, fz, by simp, by simpa using h⟩
      | some k => simp at h
    | _ => cases h
end
end Go.Proofs.YtecogbhbkccblaaGreatDoor
namespace Go.Proofs.YtecogbhbkccblaaGreatDoor
open Go.RowKit Go.ChangeShapes Go.WideShapes Go.ChangeAt

end Go.Proofs.YtecogbhbkccblaaGreatDoor
namespace Go.Proofs.YtecogbhbkccblaaGreatDoor
open Go.RowKit

section
variable {α : Type} {enc : α → List Value} {sz : Nat}
abbrev RowL (enc : α → List Value) (sz : Nat) (H : Hp) (v : Value) (l : List α) : Prop := SlR H sz v l.length (l.flatMap enc)
abbrev RowV (el : TypeId) (enc : α → List Value) (sz : Nat) (v : Value) (lv : List (Nat × Obj)) (l : List α) : Prop := Vec el sz v lv l.length (l.flatMap enc)
theorem RowL.at (hf : ∀ x, (enc x).length = sz) {H : Hp} {ad : Option Addr} {n cap : Nat} {l : List α} (h : SlR H sz (.slice ad n cap) l.length (l.flatMap enc)) {i : Nat} {x : α} (hx : l[i]? = some x) : ∃ b off, ad = some ⟨b, off, none⟩ ∧ SubC H b (off + i * sz) (enc x) := by
  have hi := (List.getElem?_eq_some_iff.1 hx).1
  obtain ⟨b, off, cap', hve, hsub⟩ := h.elem (i := i) hi (flat_elem hf l i x hx)
  injection hve with e1 e2 e3
  exact ⟨b, off, e1, hsub⟩
theorem RowL.atP (hf : ∀ x, (enc x).length = sz) {H : Hp} {b off n cap : Nat} {l : List α} (h : SlR H sz (.slice (some ⟨b, off, none⟩) n cap) l.length (l.flatMap enc)) {i : Nat} {x : α} (hx : l[i]? = some x) : SubC H b (off + i * sz) (enc x) := by
  obtain ⟨b', off', e, hs⟩ := RowL.at hf h hx
  injection e with e
  injection e with e1 e2
  subst e1 e2
  exact hs
theorem RowV.snoc {el : TypeId} {v : Value} {lv : List (Nat × Obj)} {l : List α} {x : α} (h : Vec el sz v lv (l.length + 1) (l.flatMap enc ++ enc x)) : RowV el enc sz v lv (l ++ [x]) := by
  unfold RowV
  rw [List.length_append, List.flatMap_append, List.flatMap_singleton]
  exact h
theorem RowL.one {l : List α} (hf : ∀ x ∈ l, ∀ v ∈ enc x, v.oneCell' = true) : ∀ v ∈ l.flatMap enc, v.oneCell' = true := by
  intro v hv
  obtain ⟨s, hs, hs2⟩ := List.mem_flatMap.1 hv
  exact hf s hs v hs2
end
section
variable {α : Type} {enc : α → List Value} {sz : Nat}
theorem getRow (hf : ∀ x, (enc x).length = sz) {l : List α} {i : Nat} {x : α} (tl : List Value) (h : l[i]? = some x) : ((l.flatMap enc ++ tl).drop (0 + ((i : Nat) : Int).toNat * sz)).take sz = enc x := by
  have h1 := flat_elem hf l i x h
  have hi := (List.getElem?_eq_some_iff.1 h).1
  have hl := flat_len hf l
  have hle : (i + 1) * sz ≤ l.length * sz := Nat.mul_le_mul_right _ hi
  rw [Nat.add_mul, Nat.one_mul] at hle
  rw [Nat.zero_add, Int.toNat_natCast, List.drop_append_of_le_length zO, List.take_append_of_le_length (by rw [List.length_drop]; omega), h1]
theorem takeRow (hf : ∀ x, (enc x).length = sz) (l : List α) (k : Nat) (h : k ≤ l.length) : (l.flatMap enc).take (k * sz) = (l.take k).flatMap enc := by
  have : l.flatMap enc = (l.take k).flatMap enc ++ (l.drop k).flatMap enc := by rw [← List.flatMap_append, List.take_append_drop]
  rw [this, List.take_left' (by rw [flat_len hf, List.length_take]; congr 1; omega)]
end
theorem SlR.pre {H : Hp} {sz : Nat} {ad : Option Addr} {n cap : Nat} {xs : List Value} (h : SlR H sz (.slice ad n cap) n xs) {hi : Nat} (h2 : hi ≤ n) : SlR H sz (.slice ad hi cap) hi (xs.take (hi * sz)) := by
  have hl : (xs.take (hi * sz)).length = hi * sz := by
    rw [List.length_take, h.1]
    have : hi * sz ≤ n * sz := Nat.mul_le_mul_right _ h2
    omega
  refine ⟨hl, ?_⟩
  rcases h.2 with ⟨_, rfl⟩ | ⟨b, off, cap', cs, t, fz, hv, hb, hx, hcap⟩
  · left
    obtain rfl : hi = 0 := by omega
    exact ⟨⟨_, _, rfl⟩, rfl⟩
  · injection hv with e1 e2 e3
    subst e1 e3
    right
    refine ⟨b, off, cap, cs, t, fz, rfl, hb, ?_, by omega⟩
    rw [← hx, List.take_take]
    congr 1
    exact (Nat.min_eq_left (Nat.mul_le_mul_right _ h2)).symm
end Go.Proofs.YtecogbhbkccblaaGreatDoor
namespace Go.Proofs.YtecogbhbkccblaaGreatDoor
open Go.RowKit

section
variable {P : Program} {ro : Option Nat} {ops : Array Oper} {C : World → Prop} {md : Region.Mode}
/-- All orders; the class of worlds is kept while operation s is to come. -/
def wpAnyS (ro : Option Nat) (P : Program) (md : Region.Mode) (ops : Array Oper) (C : World → Prop) (s : Nat) (Q : Act → World → Prop) : Nat → Array Bool → Act → World → Prop
  | 0, listed, a, w => (listed.getD s true = false → C w) ∧ Region.ready md ops listed = [] ∧ Q a w
  | fuel + 1, listed, a, w => (listed.getD s true = false → C w) ∧ (Region.ready md ops listed = [] → Q a w) ∧
    ∀ i ∈ Region.ready md ops listed, wpOpIn (Fw ro) 0 P ops (fun _ _ _ => False) i (wpAnyS ro P md ops C s Q fuel (listed.setIfInBounds i true)) a w
theorem wpAnyS.cls {Q : Act → World → Prop} {s fuel : Nat} {listed : Array Bool} {a : Act} {w : World} (h : wpAnyS ro P md ops C s Q fuel listed a w) (hs : listed.getD s true = false) : C w := by
  cases fuel <;> exact h.1 hs
theorem wpAnyS.any {Q : Act → World → Prop} {Q' : Post} {s : Nat} (hQ : ∀ a w, Q a w → Q' .normal a w) : ∀ {fuel : Nat} {listed : Array Bool} {a : Act} {w : World}, wpAnyS ro P md ops C s Q fuel listed a w → wpAnyIn (Fw ro) 0 P md ops Q' fuel listed a w
  | 0, _, _, _, h => ⟨h.2.1, hQ _ _ h.2.2⟩
  | _ + 1, _, _, _, h => ⟨fun h0 => hQ _ _ (h.2.1 h0), fun i hi => wpOpIn_monoQ (fun _ _ _ _ hf => hf.elim) (wpOpIn_mono (fun _ _ hk => hk.any hQ) (h.2.2 i hi))⟩
theorem wpAnyS_first {Q : Act → World → Prop} {s i : Nat} {oi : Oper} {v : Value} (hi : ops[i]? = some oi) (hnd : noDefer ops = true) (his : i ≠ s) :
    ∀ (fuel : Nat) (listed : Array Bool) (a : Act) (w : World),
      (∀ j oj, ops[j]? = some oj → j ≠ i → listed.getD j true = false → (∀ e ∈ oj.after, Region.binds md e = true → e.on ≠ i) → oi.apart ops oj = true) →
      (∀ os, ops[s]? = some os → ∃ e ∈ os.after, Region.binds md e = true ∧ e.on = i) → listed.getD s true = false →
      i ∈ Region.ready md ops listed → YieldsC P ops C oi v a →
      wpAnyS ro P md ops C s Q fuel (listed.setIfInBounds i true) (a.put oi.dst v) w → wpAnyS ro P md ops C s Q (fuel + 1) listed a w := by
  intro fuel
  induction fuel with
  | zero =>
    intro listed a w _ _ hsl hr hy H
    have hC : C w := H.cls (by rw [getD_set_ne true his]; exact hsl)
    refine ⟨fun _ => hC, (fun h => by rw [h] at hr; cases hr), fun j hj => ?_⟩
    by_cases hji : j = i
    · subst hji; exact hy.wpOpIn (noDefer_spec hnd hi).1 hi hC H
    · have := ready_mono hj hji
      rw [H.2.1] at this
      cases this
  | succ fuel ih =>
    intro listed a w hfree hse hsl hr hy H
    have hC : C w := H.cls (by rw [getD_set_ne true his]; exact hsl)
    refine ⟨fun _ => hC, (fun h => by rw [h] at hr; cases hr), fun j hj => ?_⟩
    by_cases hji : j = i
    · subst hji; exact hy.wpOpIn (noDefer_spec hnd hi).1 hi hC H
    · have h1 := H.2.2 j (ready_mono hj hji)
      obtain ⟨hjun, oj, hoj, hall⟩ := mem_ready.1 hj
      have hun : ∀ e ∈ oj.after, Region.binds md e = true → e.on ≠ i := fun e he hb heq => by
        have h1 := hall e he hb
        have h0 := (mem_ready.1 hr).1
        rw [heq] at h1
        rcases Nat.lt_or_ge i listed.size with h' | h'
        · simp [h'] at h0 h1; rw [h0] at h1; cases h1
        · simp [Array.getElem?_eq_none h'] at h1
      have hjs : j ≠ s := by
        rintro rfl
        obtain ⟨e, he, hb, heq⟩ := hse oj hoj
        exact hun e he hb heq
      have h2 := wpOpIn_putC (C := C) (noDefer_spec hnd hoj).1 hoj (hfree j oj hoj hji hjun hun) (noDefer_spec hnd hi).2 (noDefer_spec hnd hoj).2 (fun _ _ _ hf => hf) hy h1
      have hfree' : ∀ k ok, ops[k]? = some ok → k ≠ i → (listed.setIfInBounds j true).getD k true = false →
          (∀ e ∈ ok.after, Region.binds md e = true → e.on ≠ i) → oi.apart ops ok = true := fun k ok hk hki hun hno => by
        refine hfree k ok hk hki ?_ hno
        by_cases hjk : j = k
        · subst hjk; exact hjun
        · rw [getD_set_ne true hjk] at hun; exact hun
      refine wpOpIn_mono (fun a' w' h3 => ih (listed.setIfInBounds j true) a' w' hfree' hse (by rw [getD_set_ne true hjs]; exact hsl) (ready_mono hr (Ne.symm hji)) h3.1 ?_) h2
      rw [Array.setIfInBounds_comm _ _ hji]
      exact h3.2
end

section
variable {P : Program} {X : Cx} {e : Env} {l : List (Nat × Obj)} {H : Hp} {D : List Deferred} {k : List It} {ops : Array Oper}
def TS (P : Program) (X : Cx) (e : Env) (l : List (Nat × Obj)) (H : Hp) (D : List Deferred) (ops : Array Oper) (lc : List (Nat × Obj)) (Hc : Hp) (s : Nat) (fuel : Nat) (listed : Array Bool) (k : List It) : Prop :=
  ∀ a w, Ea X e D a → Wd X l H w → wpAnyS X.ro P .any ops (Cls lc Hc) s (fun a w => wpK P X.ro X.Q k .normal a w) fuel listed a w
theorem T.regionS {id : Nat} {os : List Oper} [hm : Mixed P] (lc : List (Nat × Obj)) (s : Nat) (hnd : noDefer os.toArray = true) (h : TS P X e l H D os.toArray lc H s os.length (Array.replicate os.length false) k) :
    T P X e l H D (.code (.region id os.toArray true) :: k) := T.mk fun a w ha hw => by
  show (Code.region id os.toArray true).wpIn (Fw X.ro) 0 P _ a w
  refine wpIn_region_any hm.h ?_
  have := (h a w.drew ha hw.drew).any (Q' := wpK P X.ro X.Q k) (fun _ _ h => h)
  simpa using this
def waitsOn (ops : Array Oper) (s i : Nat) : Bool := match ops[s]? with
  | some o => o.after.toList.any fun e => Region.binds .any e && Nat.beq e.on i
  | none => false
theorem waitsOn_spec {s i : Nat} (h : waitsOn ops s i = true) : ∀ os, ops[s]? = some os → ∃ e ∈ os.after, Region.binds .any e = true ∧ e.on = i := by
  intro os hos
  unfold waitsOn at h
  rw [hos] at h
  obtain ⟨e, he, h1⟩ := List.any_eq_true.1 h
  simp only [Bool.and_eq_true] at h1
  exact ⟨e, Array.mem_toList_iff.1 he, h1.1, Nat.eq_of_beq_eq_true h1.2⟩
theorem TS.take {lc : List (Nat × Obj)} {Hc : Hp} {s fuel d : Nat} {listed : Array Bool} {o : Oper} {v : Value} (i : Nat) (hi : ops[i]? = some o) (hnd : noDefer ops = true) (hr : (Region.ready .any ops listed).contains i = true) (hf : Region.free .any ops listed i = true)
    (hws : (waitsOn ops s i && !(Nat.beq i s) && !(listed.getD s true)) = true)
    (hv : PV P e lc Hc o v) (hw : Wanted e ops o) (hd : o.dst = some d) (hN : Nat.blt d X.N = true) (h : TS P X ((d, v) :: e) l H D ops lc Hc s fuel (listed.setIfInBounds i true) k) :
    TS P X e l H D ops lc Hc s (fuel + 1) listed k := fun a w ha hw' => by
  simp only [Bool.and_eq_true, Bool.not_eq_true'] at hws
  refine wpAnyS_first (v := v) hi hnd (fun he => by rw [he, Nat.beq_refl] at hws; simp at hws) fuel listed a w (Region.free_spec hi hf) (waitsOn_spec hws.1.1) hws.2 (by simpa using hr) (.inl ⟨hw.get X D a ha, fun w2 hC => ?_⟩) ?_
  · exact hv.get { X with w1 := w2, H0 := Hc, Pt := own0 lc } D a w2 ⟨ha.size, ha.get, ha.dfr⟩ (hC.re rfl rfl rfl)
  · rw [hd]; exact h _ w (ha.put (by simpa using hN) v) hw'
def TSJ (P : Program) (X : Cx) (ops : Array Oper) (lc : List (Nat × Obj)) (Hc : Hp) (s : Nat) (fuel : Nat) (listed : Array Bool) (k : List It) : Act → World → Prop :=
  fun a w => wpAnyS X.ro P .any ops (Cls lc Hc) s (fun a w => wpK P X.ro X.Q k .normal a w) fuel listed a w
def Ways (Q : Nat → Prop) : List Nat → Prop
  | [] => True
  | i :: r => Q i ∧ Ways Q r
theorem Ways.spec {Q : Nat → Prop} : ∀ {r : List Nat}, Ways Q r → ∀ i ∈ r, Q i
  | j :: r, h, i, hi => by
    rcases List.mem_cons.1 hi with rfl | hi
    · exact h.1
    · exact Ways.spec h.2 i hi
/-- Any of the operations that may come now. -/
theorem TS.ways {lc : List (Nat × Obj)} {Hc : Hp} {s fuel : Nat} {listed : Array Bool} (rd : List Nat) (hr : Region.ready .any ops listed = rd) (hne : rd.isEmpty = false) (hl : listed.getD s true = true ∨ (List.Sublist lc l ∧ Hc.le H))
    (h : Ways (fun i => ∃ o, ops[i]? = some o ∧ T P X.safe e l H D [.ops ops [o], .done (TSJ P X ops lc Hc s fuel (listed.setIfInBounds i true) k)]) rd) : TS P X e l H D ops lc Hc s (fuel + 1) listed k := fun a w ha hw' => by
  refine ⟨fun hs => ?_, (fun h0 => by rw [hr] at h0; subst h0; simp at hne), fun i hi => ?_⟩
  · rcases hl with h1 | ⟨h1, h2⟩
    · rw [hs] at h1; cases h1
    · exact cls_of hw' h1 h2
  · rw [hr] at hi
    obtain ⟨o, ho, hT⟩ := h.spec i hi
    have h1 := hT.get a w ⟨ha.size, ha.get, ha.dfr⟩ (hw'.re rfl rfl rfl)
    have h2 : wpListIn (Fw X.ro) 0 P ops (wpK P X.ro X.safe.Q [.done (TSJ P X ops lc Hc s fuel (listed.setIfInBounds i true) k)]) [o] a w := h1
    unfold wpOpIn
    simp only [ho]
    simp only [wpListIn] at h2
    split
    · rename_i hw
      simp only [hw, if_true] at h2
      exact Oper.wpIn_monoQ (fun e a w hn he => by cases e <;> first | exact absurd rfl hn | exact he) h2
    · rename_i hw
      simp only [hw] at h2
      exact h2
theorem TS.back {lc : List (Nat × Obj)} {Hc : Hp} {s fuel : Nat} {listed : Array Bool} (h : TS P X e l H D ops lc Hc s fuel listed k) : T P X.safe e l H D [.done (TSJ P X ops lc Hc s fuel listed k)] :=
  T.done fun a w ha hw => h a w ⟨ha.size, ha.get, ha.dfr⟩ (hw.re rfl rfl rfl)
theorem TS.done {lc : List (Nat × Obj)} {Hc : Hp} {s : Nat} {listed : Array Bool} (hr : Region.ready .any ops listed = []) (hs : listed.getD s true = true) (h : T P X e l H D k) : TS P X e l H D ops lc Hc s 0 listed k :=
  fun a w ha hw => ⟨(fun h0 => by rw [hs] at h0; cases h0), hr, h.get a w ha hw⟩
end
attribute [irreducible] TS TSJ
end Go.Proofs.YtecogbhbkccblaaGreatDoor
namespace Go.Proofs.YtecogbhbkccblaaGreatDoor
open Go.RowKit

section
variable {P : Program} {X : Cx} {e : Env} {l : List (Nat × Obj)} {H : Hp} {D : List Deferred} {k : List It}
variable {ty : TypeId} {pos : String} {after : Array Edge} {gd : Option (Nat × Bool)} {all : Array Oper} {rest : List Oper}
theorem T.copyNone {t el sz bytes : Nat} [hs : SlOf P t el sz] [he : ElOf P el sz bytes] {x y : Operand} {d n cap n2 cap2 : Nat} {ad ad2 : Option Addr}
    (hw : Wanted e all ⟨some d, .call ⟨.builtin .copy, #[x, y], #[t, t]⟩, ty, pos, after, gd⟩) (hN : Nat.blt d X.N = true)
    (hx : evE e x = some (.slice ad n cap)) (hy : evE e y = some (.slice ad2 n2 cap2)) (hm : Nat.min n2 n = 0)
    (h : T P X ((d, .int .i64 0) :: e) l H D (.ops all rest :: k)) :
    T P X e l H D (.ops all (⟨some d, .call ⟨.builtin .copy, #[x, y], #[t, t]⟩, ty, pos, after, gd⟩ :: rest) :: k) :=
  T.step hw rfl hN fun a w ha hw' => by
    refine ⟨_, _, H, w, ?_, hw', h⟩
    obtain ⟨i, z, hi1, -, hi2, -⟩ := he.h
    have hfc : (Builtin.firstCells sz 0 (.slice ad2 n2 cap2)).run P w = .ok #[] w := by
      cases ad2 with
      | none => simp [Builtin.firstCells]
      | some a2 => exact run_firstCells_some (P := P) (w := w) sz 0 a2 n2 cap2 [] (by simp) (by simp)
    cases ad with
    | none => simp [execOp, resolve, invoke, builtin, ha.eval hx, ha.eval hy, Builtin.copy_, run_underlying hs.h, Builtin.lenOf, hm, sizeOf, typeInfo, hi1, hi2, hfc, goInt]
    | some a1 => simp [execOp, resolve, invoke, builtin, ha.eval hx, ha.eval hy, Builtin.copy_, run_underlying hs.h, Builtin.lenOf, hm, sizeOf, typeInfo, hi1, hi2, hfc, goInt, storeCells]
end
end Go.Proofs.YtecogbhbkccblaaGreatDoor
namespace Go.Proofs.YtecogbhbkccblaaGreatDoor
open Go.RowKit

theorem Pick.self {l : List (Nat × Obj)} : Pick l l [] := by
  induction l with
  | nil => exact .nil
  | cons p l ih => exact .take ih
/-- the blocks of a list, wherever they lie in another one -/
inductive Sel : List (Nat × Obj) → List (Nat × Obj) → Prop
  | nil {l} : Sel l []
  | cons {l p r l'} : Pick l [p] r → Sel r l' → Sel l (p :: l')
  | app {l x r l'} : Pick l x r → Sel r l' → Sel l (x ++ l')
  | one {l x r} : Pick l x r → Sel l x
theorem Sel.perm {l l' : List (Nat × Obj)} (h : Sel l l') : ∃ r, (l' ++ r).Perm l := by
  induction h with
  | @nil l => exact ⟨l, List.Perm.refl _⟩
  | @cons l p r l' hp _ ih =>
    obtain ⟨s, hs⟩ := ih
    exact ⟨s, (List.Perm.cons p hs).trans hp.perm⟩
  | @app l x r l' hp _ ih =>
    obtain ⟨s, hs⟩ := ih
    exact ⟨s, by rw [List.append_assoc]; exact (hs.append_left x).trans hp.perm⟩
  | @one l x r hp => exact ⟨r, hp.perm⟩
section
variable {P : Program} {X : Cx} {e : Env} {l : List (Nat × Obj)} {H : Hp} {D : List Deferred} {k : List It}
variable {ty : TypeId} {pos : String} {after : Array Edge} {gd : Option (Nat × Bool)} {all : Array Oper} {rest : List Oper}
theorem Src.perm {l' : List (Nat × Obj)} {sz : Nat} {y : Value} {m : Nat} {ys : List Value} (hp : l'.Perm l) (h : Src P l H sz y m ys) : Src P l' H sz y m ys :=
  ⟨h.1, h.2.1, fun X w hw => h.2.2 X w (hw.perm hp.symm)⟩
/-- append, where the blocks of what is appended to lie somewhere in the memory. -/
theorem T.appendP {t t' el sz bytes d : Nat} [hs : SlOf P t el sz] [he : ElOf P el sz bytes] [hn' : NotInt P t'] {x y : Operand} {v yv : Value} {lv r : List (Nat × Obj)} {n m : Nat} {xs ys : List Value}
    (hw : Wanted e all ⟨some d, .call ⟨.builtin .append, #[x, y], #[t, t']⟩, ty, pos, after, gd⟩) (hN : Nat.blt d X.N = true) (hx : evE e x = some v) (hy : evE e y = some yv)
    (hv : Vec el sz v lv n xs) (hsrc : Src P l H sz yv m ys) (h1 : ∀ u ∈ ys, u.oneCell' = true) (hb : (n + m) * bytes ≤ 140737488355328 ∧ n + m ≤ 140737488355328) (hpk : Pick l lv r)
    (h : ∀ v' lv', Vec el sz v' lv' (n + m) (xs ++ ys) → (v' = .slice none 0 0 → n + m = 0) → T P X ((d, v') :: e) (lv' ++ r) H D (.ops all rest :: k)) :
    T P X e l H D (.ops all (⟨some d, .call ⟨.builtin .append, #[x, y], #[t, t']⟩, ty, pos, after, gd⟩ :: rest) :: k) :=
  T.perm hpk.perm (T.append [] (lv := lv) (bl := r) hw hN hx hy hv (hsrc.perm hpk.perm) h1 hb h)
theorem T.storeVecP {t : TypeId} [ht : IsOne P t] {x y : Operand} {v : Value} {lv r : List (Nat × Obj)} {el sz b o n m cap : Nat} {xs : List Value} (hw : Wanted e all ⟨none, .store t x y, ty, pos, after, gd⟩)
    (hx : evE e x = some (.pointer (some ⟨b, o, none⟩))) (hy : evE e y = some v) (h1 : v.oneCell' = true) (hv : Vec el sz (.slice (some ⟨b, 0, none⟩) m cap) lv n xs) (ho : o < xs.length) (hpk : Pick l lv r)
    (h : ∀ lv', Vec el sz (.slice (some ⟨b, 0, none⟩) m cap) lv' n (xs.set o v) → T P X e (lv' ++ r) H D (.ops all rest :: k)) : T P X e l H D (.ops all (⟨none, .store t x y, ty, pos, after, gd⟩ :: rest) :: k) :=
  T.perm hpk.perm (T.storeVec [] (bl := r) hw hx hy h1 hv ho h)
theorem T.freezeP {el sz : Nat} {v : Value} {lv r : List (Nat × Obj)} {n : Nat} {xs : List Value} (hv : Vec el sz v lv n xs) (hpk : Pick l lv r) (h : ∀ H', H.le H' → SlR H' sz v n xs → T P X e r H' D k) : T P X e l H D k :=
  T.perm hpk.perm (Vec.freeze (lv := lv) (l := r) hv h)
/-- some blocks to the front -/
theorem T.front (lv : List (Nat × Obj)) {r : List (Nat × Obj)} (hpk : Pick l lv r) (h : T P X e (lv ++ r) H D k) : T P X e l H D k := T.perm hpk.perm h
theorem T.sel {l' : List (Nat × Obj)} (hs : Sel l l') (h : T P X e l' H D k) : T P X e l H D k := by
  obtain ⟨r, hr⟩ := hs.perm
  exact T.mk fun a w ha hw => h.get a w ha ((hw.perm hr).sub (List.sublist_append_left l' r))
theorem T.nextP {γ : Type} {C : γ → Prop} {eg : γ → Env} {lg : γ → List (Nat × Obj)} {Hg : γ → Hp} {μ : γ → Nat} {g : γ} (g' : γ) (hc : C g') (hm : μ g' < μ g) (he : Env.Sub (eg g') e) (hl : Sel l (lg g')) (hH : Hg g' = H) :
    T P X e l H D (.done (LoopJ X D C eg lg Hg μ g) :: k) := T.sel hl (T.next g' hc hm he (List.Sublist.refl _) hH)
end
def encI (a : Int) : List Value := [.int .i64 a]
theorem encI_len (a : Int) : (encI a).length = 1 := rfl
def encT (s : ByteArray) : List Value := [.string s]
theorem encT_len (s : ByteArray) : (encT s).length = 1 := rfl
theorem one_encT (s : ByteArray) : ∀ v ∈ encT s, v.oneCell' = true := by
  intro v hv
  simp only [encT, List.mem_cons, List.not_mem_nil, or_false] at hv
  subst hv; rfl
abbrev StL (H : Hp) (v : Value) (l : List ByteArray) : Prop := SlR H 1 v l.length (l.flatMap encT)
theorem flat_at {α : Type} {f : α → Value} {l : List α} {n : Int} (h : 0 ≤ n ∧ n < l.length) : ∃ s, s ∈ l ∧ l[n.toNat]? = some s ∧ (l.flatMap fun s => [f s])[0 + n.toNat * 1]? = some (f s) := by
  have hlt : n.toNat < l.length := by omega
  refine ⟨l[n.toNat], List.getElem_mem hlt, List.getElem?_eq_getElem hlt, ?_⟩
  have hel := flat_elem (f := fun s : α => [f s]) (sz := 1) (fun _ => rfl) l n.toNat _ (List.getElem?_eq_getElem hlt)
  have := congrArg (fun l => l[0]?) hel
  simp only [Nat.mul_one, List.getElem?_take, List.getElem?_drop, Nat.add_zero] at this
  rw [Nat.zero_add, Nat.mul_one]
  simpa using this
theorem flat_set {α : Type} {f : α → Value} (l : List α) (o : Nat) (x : α) : (l.flatMap fun s => [f s]).set o (f x) = (l.set o x).flatMap fun s => [f s] := by
  induction l generalizing o with
  | nil => rfl
  | cons a l ih =>
    cases o with
    | zero => rfl
    | succ o =>
      have := ih o
      simp only [List.flatMap_cons, List.singleton_append, List.set_cons_succ, this]
end Go.Proofs.YtecogbhbkccblaaGreatDoor
namespace Go.Proofs.YtecogbhbkccblaaGreatDoor
open Go.RowKit

theorem Env.Sub.app {a b e : Env} (h : Env.Sub a e) (h' : Env.Sub b e) : Env.Sub (a ++ b) e := by
  induction a with
  | nil => exact h'
  | cons p a ih => exact ⟨h.1, ih h.2⟩
section
variable {P : Program} {X : Cx} {e : Env} {l : List (Nat × Obj)} {H : Hp} {D : List Deferred} {k : List It}
variable {ty : TypeId} {pos : String} {after : Array Edge} {gd : Option (Nat × Bool)} {all : Array Oper} {rest : List Oper}
/-- A loop in which some slots turn (ch) and some stay (ks). -/
theorem T.loopK {γ : Type} {body : Code} (ek : Env) (hk : Env.Sub ek e) (C : γ → Prop) (ch : γ → Env) (lg : γ → List (Nat × Obj)) (Hg : γ → Hp) (μ : γ → Nat) (g0 : γ) (h0 : C g0) (he0 : Env.Sub (ch g0) e) (hl0 : Sel l (lg g0)) (hH0 : Hg g0 = H)
    (h : ∀ g, C g → T P X (ch g ++ ek) (lg g) (Hg g) D (.code body :: .done (LoopJ X D C (fun g => ch g ++ ek) lg Hg μ g) :: k)) :
    T P X e l H D (.code (.loop body) :: k) :=
  T.sel hl0 (T.loop C (fun g => ch g ++ ek) lg Hg μ g0 h0 (he0.app hk) (List.Sublist.refl _) hH0 h)
/-- A loop that counts a slot up to n and writes nothing that it did not make. -/
theorem T.loopR {body : Code} (ek : Env) (hk : Env.Sub ek e) (c n : Nat) (he0 : e.get c = some (.int .i64 0))
    (h : ∀ i : Nat, i ≤ n → T P X ((c, .int .i64 (i : Int)) :: ek) l H D (.code body :: .done (LoopJ X D (fun i : Nat => i ≤ n) (fun i => (c, .int .i64 (i : Int)) :: ek) (fun _ => l) (fun _ => H) (fun i => n - i) i) :: k)) :
    T P X e l H D (.code (.loop body) :: k) :=
  T.loop (γ := Nat) (fun i => i ≤ n) (fun i => (c, .int .i64 (i : Int)) :: ek) (fun _ => l) (fun _ => H) (fun i => n - i) 0 (Nat.zero_le _) ⟨he0, hk⟩ (List.Sublist.refl _) rfl h
/-- .. with more that holds at its head. -/
theorem T.loopC {body : Code} (ek : Env) (hk : Env.Sub ek e) (c n : Nat) (C : Nat → Prop) (h0 : C 0) (he0 : e.get c = some (.int .i64 0))
    (h : ∀ i : Nat, i ≤ n ∧ C i → T P X ((c, .int .i64 (i : Int)) :: ek) l H D (.code body :: .done (LoopJ X D (fun i : Nat => i ≤ n ∧ C i) (fun i => (c, .int .i64 (i : Int)) :: ek) (fun _ => l) (fun _ => H) (fun i => n - i) i) :: k)) :
    T P X e l H D (.code (.loop body) :: k) :=
  T.loop (γ := Nat) (fun i => i ≤ n ∧ C i) (fun i => (c, .int .i64 (i : Int)) :: ek) (fun _ => l) (fun _ => H) (fun i => n - i) 0 ⟨Nat.zero_le _, h0⟩ ⟨he0, hk⟩ (List.Sublist.refl _) rfl h
theorem T.nextR {ek : Env} {c n i : Nat} {l0 : List (Nat × Obj)} (hi : i < n) (hc : e.get c = some (.int .i64 ((i : Int) + 1))) (hk : Env.Sub ek e) (hl : Sel l l0) :
    T P X e l H D (.done (LoopJ X D (fun i : Nat => i ≤ n) (fun i => (c, .int .i64 (i : Int)) :: ek) (fun _ => l0) (fun _ => H) (fun i => n - i) i) :: k) :=
  T.nextP (i + 1) zO zO ⟨hc, hk⟩ hl rfl
theorem T.nextC {ek : Env} {c n i : Nat} {C : Nat → Prop} {l0 : List (Nat × Obj)} (hi : i < n) (hC : C (i + 1)) (hc : e.get c = some (.int .i64 ((i : Int) + 1))) (hk : Env.Sub ek e) (hl : Sel l l0) :
    T P X e l H D (.done (LoopJ X D (fun i : Nat => i ≤ n ∧ C i) (fun i => (c, .int .i64 (i : Int)) :: ek) (fun _ => l0) (fun _ => H) (fun i => n - i) i) :: k) :=
  T.nextP (i + 1) ⟨by omega, hC⟩ zO ⟨hc, hk⟩ hl rfl
theorem Sel.refl (l : List (Nat × Obj)) : Sel l l := Sel.one Pick.self
/-- The rest once, for both that a test may have come to. -/
theorem T.cutB {a : It} (ek : Env) (d : Nat) (K : ∀ q : Bool, T P X ((d, .bool q) :: ek) l H D k)
    (h : (∀ q e' l', Env.Sub ((d, .bool q) :: ek) e' → Sel l' l → T P X e' l' H D k) → T P X e l H D (a :: k)) : T P X e l H D (a :: k) :=
  h fun q _ _ he hl => T.sel hl (T.weak he (List.Sublist.refl _) (K q))
/-- .. where some slots turn (ch), and blocks. -/
theorem T.cutK {a : It} {γ : Type} (ek : Env) (C : γ → Prop) (ch : γ → Env) (lg : γ → List (Nat × Obj)) (K : ∀ g, C g → T P X (ch g ++ ek) (lg g) H D k)
    (h : (∀ g e' l', C g → Env.Sub (ch g ++ ek) e' → Sel l' (lg g) → T P X e' l' H D k) → T P X e l H D (a :: k)) : T P X e l H D (a :: k) :=
  h fun g _ _ hc he hl => T.sel hl (T.weak he (List.Sublist.refl _) (K g hc))
/-- The heap is known to hold less. -/
theorem T.forget {H0 : Hp} (hle : H0.le H) (h : T P X e l H0 D k) (hb : X.H0.le H0) : T P X e l H D k := T.mk fun a w ha hw =>
  h.get a w ha ⟨fun p hp => by
    obtain ⟨h1, h2, h3⟩ := hw.own p hp
    refine ⟨h1, ?_, h3⟩
    cases hh : H0 p.1 with
    | none => rfl
    | some o => rw [hle _ _ hh] at h2; exact absurd h2 (by simp), hw.nd, fun b o hb' => hw.fro b o (hle b o hb'), hw.keep, hb, fun b hb1 hb2 => by
    have h1 := hw.ext b hb1 hb2
    cases hh : H0 b with
    | some o => rw [hle _ _ hh] at h1; exact h1
    | none =>
      cases hx0 : X.H0 b with
      | none => rfl
      | some o => rw [hb _ _ hx0] at hh; cases hh⟩
/-- A call of a named function of whose value alone something is known. -/
theorem T.callX {d : Nat} {f : FuncId} [hE : Ent P f] {xs : List Operand} {ts : Array TypeId} {vs : List Value} {R : Value → Prop} (hw : Wanted e all ⟨some d, .call ⟨.value (.func f), xs.toArray, ts⟩, ty, pos, after, gd⟩) (hN : Nat.blt d X.N = true)
    (hv : evL e xs = some vs) (hf : Fn P f vs.toArray H (fun u _ => R u))
    (h : ∀ v, R v → T P X ((d, v) :: e) l H D (.ops all rest :: k)) :
    T P X e l H D (.ops all (⟨some d, .call ⟨.value (.func f), xs.toArray, ts⟩, ty, pos, after, gd⟩ :: rest) :: k) := T.mk fun a w ha hw' => by
  refine wpList_cons (hw.get X D a ha) ?_
  have hrun : (execOp a.eval ⟨some d, .call ⟨.value (.func f), xs.toArray, ts⟩, ty, pos, after, gd⟩).run P w = .ok (.enter f vs.toArray) w := by
    have := evL_map ha xs vs hv
    have hE' := hE.h (xs.map a.eval).toArray w
    rw [this] at hE'
    simp [execOp, resolve, Act.eval, Deferred.ofValue, invoke, List.map_toArray, this, hE']
  rw [run_semAt hrun (fun _ => by simp), Oper.uponIn_enter]
  refine ⟨fun hd => by simp [Fw, Fence.wide] at hd, ?_⟩
  have hc : CallsIn (Fw X.ro) 0 P f vs.toArray w (FnR w H (fun u _ => R u)) := hf.get w hw'.fro
  refine hc.mono ?_
  rintro en w' ⟨u, H', rfl, h2, h3, h4, h5⟩
  exact (h _ h5).get _ w' (ha.put (by simpa using hN) u) (hw'.callV h4)
end
section
variable {P : Program} {e : Env} {l : List (Nat × Obj)} {H : Hp} {dst : Option Tmp} {ty : TypeId} {pos : String} {after : Array Edge} {gd : Option (Nat × Bool)}
theorem PV.sgeq {x y : Operand} {t t' : TypeId} {m n : ByteArray} (hx : evE e x = some (.string m)) (hy : evE e y = some (.string n)) :
    PV P e l H ⟨dst, .binOp .geq t x y t', ty, pos, after, gd⟩ (.bool (!(Op.bytesLess m.data.toList n.data.toList))) := PV.mk fun X D a w ha hw => by
  simp only [← ByteArray.toList_eq]
  simp [execOp, ha.eval hx, ha.eval hy, binOp, eqGuard, Op.stringOp]
theorem PV.sleq {x y : Operand} {t t' : TypeId} {m n : ByteArray} (hx : evE e x = some (.string m)) (hy : evE e y = some (.string n)) :
    PV P e l H ⟨dst, .binOp .leq t x y t', ty, pos, after, gd⟩ (.bool (Op.bytesLess m.data.toList n.data.toList || decide (m = n))) := PV.mk fun X D a w ha hw => by
  simp only [← ByteArray.toList_eq]
  simp [execOp, ha.eval hx, ha.eval hy, binOp, eqGuard, Op.stringOp, ba_eq]
end
/-! ### what a function may come to, where no more is wanted -/
abbrev IsB (u : Value) : Prop := ∃ b : Bool, u = .bool b
abbrev IsI (u : Value) : Prop := ∃ n : Int, u = .int .i64 n
abbrev IsII (u : Value) : Prop := ∃ n m : Int, u = .tuple #[.int .i64 n, .int .i64 m]
end Go.Proofs.YtecogbhbkccblaaGreatDoor
namespace Go.Proofs.YtecogbhbkccblaaGreatDoor
open Go.RowKit

theorem bytesV_length (l : List UInt8) : (bytesV l).length = l.length := by simp [bytesV]
section
variable {P : Program} {X : Cx} {e : Env} {l : List (Nat × Obj)} {H : Hp} {D : List Deferred} {k : List It}
variable {ty : TypeId} {pos : String} {after : Array Edge} {gd : Option (Nat × Bool)} {all : Array Oper} {rest : List Oper}
theorem T.strBytes {s t el : TypeId} [hs : StrT P s] [ht : SlOf P t el 1] [hk : IntT P el .u8] {x : Operand} {m : ByteArray} {d : Nat} (hw : Wanted e all ⟨some d, .convert s t x, ty, pos, after, gd⟩) (hN : Nat.blt d X.N = true)
    (hx : evE e x = some (.string m))
    (h : ∀ b cap H', H.le H' → m.size ≤ cap → SlR H' 1 (.slice (some ⟨b, 0, none⟩) m.size cap) m.size (bytesV m.data.toList) → T P X ((d, .slice (some ⟨b, 0, none⟩) m.size cap) :: e) l H' D (.ops all rest :: k)) :
    T P X e l H D (.ops all (⟨some d, .convert s t x, ty, pos, after, gd⟩ :: rest) :: k) :=
  T.step hw rfl hN fun a w ha hw' => by
    have hr := Go.Lib.run_convert_string_bytes (P := P) w s t el m hs.h ht.h hk.h
    have hnew := Go.Lib.bytesWorld_at_new w el m
    obtain ⟨cs, hcs⟩ : ∃ cs : List Value, cs.toArray = Go.Lib.bytesCells w el m := ⟨(Go.Lib.bytesCells w el m).toList, by simp⟩
    rw [← hcs] at hnew
    have hH' : ∀ b, b < w.heap.size → (H.put w.heap.size (.cells cs.toArray el (cs.toArray.size, cs.toArray.size + 1))) b = H b := fun b hb => Hp.put_other zO
    have hkeep : Keep All w (Go.Lib.bytesWorld w el m) := ⟨rfl, rfl, rfl, by rw [Go.Lib.bytesWorld_size]; omega, by
      show w.drawn ≤ (Go.Lib.bytesWorld w el m).drawn
      exact Nat.le_succ _, fun k hk _ => Go.Lib.bytesWorld_at_old w el m k hk⟩
    have hin : Hin (H.put w.heap.size (.cells cs.toArray el (cs.toArray.size, cs.toArray.size + 1))) (Go.Lib.bytesWorld w el m) := by
      intro b o hb
      by_cases e1 : b = w.heap.size
      · subst e1
        rw [Hp.put_same] at hb
        cases hb
        exact hnew
      · rw [Hp.put_other e1] at hb
        exact (Go.Lib.bytesWorld_at_old w el m b (hw'.ltH hb)).trans (hw'.fro b o hb)
    have hcl : cs = bytesV m.data.toList ++ List.replicate (grownCap w m.size 0 el - m.size) (.int .u8 0) := by
      have := congrArg Array.toList hcs
      simpa [Go.Lib.bytesCells, bytesV] using this
    have hbl : (bytesV m.data.toList).length = m.size * 1 := by rw [bytesV_length]; simp
    refine ⟨_, l, _, Go.Lib.bytesWorld w el m, ?_, hw'.call hkeep hin hH', h w.heap.size (grownCap w m.size 0 el) _ (Hp.le_put hw'.none_new) (by have := grownCap_ge w m.size 0 el; omega) ⟨hbl, .inr ⟨_, 0, _, cs, _, _, rfl, Hp.put_same, ?_, by have := grownCap_ge w m.size 0 el; omega⟩⟩⟩
    · simp only [execOp, ha.eval hx, Sem.run_bind]
      rw [hr]; rfl
    · rw [List.drop_zero, hcl, ← hbl, List.take_left]
end
end Go.Proofs.YtecogbhbkccblaaGreatDoor
namespace Go.Proofs.YtecogbhbkccblaaGreatDoor
open Go.RowKit

section
variable {P : Program} {X : Cx} {e : Env} {l : List (Nat × Obj)} {H : Hp} {D : List Deferred} {k : List It}
/-- what is left: m rounds more at most -/
def RJ (P : Program) (X : Cx) (body : Code) (k : List It) (m : Nat) : Act → World → Prop := Code.roundsIn (Fw X.ro) 0 P body (wpK P X.ro X.Q k) m
theorem T.rounds {body : Code} (m : Nat) (h : T P X e l H D (.code body :: .done (RJ P X body k m) :: k)) : T P X e l H D (.code (.loop body) :: k) := T.mk fun a w ha hw => by
  refine wpIn_loop_rounds (m + 1) ?_
  rw [roundsIn_succ]
  refine wpIn_mono (T.get h a w ha hw) ?_
  intro en a' w' q
  cases en <;> exact q
theorem T.again {body : Code} {m : Nat} (h : T P X e l H D (.code body :: .done (RJ P X body k m) :: k)) : T P X e l H D (.done (RJ P X body k (m + 1)) :: k) := T.mk fun a w ha hw => by
  show Code.roundsIn (Fw X.ro) 0 P body (wpK P X.ro X.Q k) (m + 1) a w
  rw [roundsIn_succ]
  refine wpIn_mono (T.get h a w ha hw) ?_
  intro en a' w' q
  cases en <;> exact q
attribute [irreducible] RJ
end
end Go.Proofs.YtecogbhbkccblaaGreatDoor
namespace Go.Proofs.YtecogbhbkccblaaGreatDoor
open Go.RowKit

section
variable {P : Program} {ro : Option Nat} {ops : Array Oper} {C : World → Prop}
def waitsT (ops : Array Oper) : Nat → Nat → Nat → Bool
  | 0, _, _ => false
  | n + 1, s, i => match ops[s]? with
    | some o => o.after.toList.any fun e => Region.binds .any e && (Nat.beq e.on i || waitsT ops n e.on i)
    | none => false
/-- whatever is done, all that it waits for is done -/
def Closed (ops : Array Oper) (listed : Array Bool) : Prop := ∀ k o, ops[k]? = some o → listed.getD k false = true → ∀ e ∈ o.after, Region.binds .any e = true → listed.getD e.on false = true
def closedB (ops : Array Oper) (listed : Array Bool) : Bool := (List.range ops.size).all fun k => !(listed.getD k false) || (match ops[k]? with
  | some o => o.after.toList.all fun e => !(Region.binds .any e) || listed.getD e.on false
  | none => true)
theorem closed_spec {listed : Array Bool} (h : closedB ops listed = true) : Closed ops listed := fun k o hk hl e he hb => by
  have h1 := List.all_eq_true.1 h k (List.mem_range.2 (Array.getElem?_eq_some_iff.1 hk).1)
  rw [hl, hk] at h1
  simp only [Bool.not_true, Bool.false_or] at h1
  have h2 := List.all_eq_true.1 h1 e (Array.mem_toList_iff.2 he)
  rw [hb] at h2
  simpa using h2
theorem getD_set_mono {listed : Array Bool} {j k : Nat} (h : listed.getD k false = true) : (listed.setIfInBounds j true).getD k false = true := by
  rw [Array.getD_eq_getD_getElem?, Array.getElem?_setIfInBounds]
  rw [Array.getD_eq_getD_getElem?] at h
  split
  · split
    · rfl
    · rename_i e hh
      subst e
      rw [Array.getElem?_eq_none zO] at h
      cases h
  · exact h
theorem closed_set {listed : Array Bool} {j : Nat} (h : Closed ops listed) (hj : j ∈ Region.ready .any ops listed) : Closed ops (listed.setIfInBounds j true) := fun k o hk hl e he hb => by
  obtain ⟨_, oj, hoj, hall⟩ := mem_ready.1 hj
  by_cases hkj : j = k
  · subst hkj
    rw [hoj] at hk
    cases hk
    refine getD_set_mono ?_
    have := hall e he hb
    rw [Array.getD_eq_getD_getElem?]
    simpa using this
  · rw [getD_set_ne false hkj] at hl
    exact getD_set_mono (h k o hk hl e he hb)
theorem waitsT_done {listed : Array Bool} (h : Closed ops listed) : ∀ {n s i : Nat} {o : Oper}, waitsT ops n s i = true → ops[s]? = some o → (∀ e ∈ o.after, Region.binds .any e = true → listed.getD e.on false = true) → listed.getD i false = true
  | 0, _, _, _, h1, _, _ => by cases h1
  | n + 1, s, i, o, h1, ho, ha => by
    unfold waitsT at h1
    rw [ho] at h1
    obtain ⟨e, he, h2⟩ := List.any_eq_true.1 h1
    simp only [Bool.and_eq_true, Bool.or_eq_true] at h2
    have h3 := ha e (Array.mem_toList_iff.1 he) h2.1
    rcases h2.2 with h4 | h4
    · rw [Nat.eq_of_beq_eq_true h4] at h3; exact h3
    · cases n with
      | zero => cases h4
      | succ n =>
        have h5 := h4
        unfold waitsT at h5
        cases hoe : ops[e.on]? with
        | none => rw [hoe] at h5; cases h5
        | some oe => exact waitsT_done h h4 hoe fun e' he' hb' => h e.on oe hoe h3 e' he' hb'
theorem wpAnyS_firstT {Q : Act → World → Prop} {s i n : Nat} {oi : Oper} {v : Value} (hi : ops[i]? = some oi) (hnd : noDefer ops = true) (his : i ≠ s) (hwt : waitsT ops n s i = true) :
    ∀ (fuel : Nat) (listed : Array Bool) (a : Act) (w : World), Closed ops listed →
      (∀ j oj, ops[j]? = some oj → j ≠ i → listed.getD j true = false → (∀ e ∈ oj.after, Region.binds .any e = true → e.on ≠ i) → oi.apart ops oj = true) →
      listed.getD s true = false →
      i ∈ Region.ready .any ops listed → YieldsC P ops C oi v a →
      wpAnyS ro P .any ops C s Q fuel (listed.setIfInBounds i true) (a.put oi.dst v) w → wpAnyS ro P .any ops C s Q (fuel + 1) listed a w := by
  intro fuel
  induction fuel with
  | zero =>
    intro listed a w _ _ hsl hr hy H
    have hC : C w := H.cls (by rw [getD_set_ne true his]; exact hsl)
    refine ⟨fun _ => hC, (fun h => by rw [h] at hr; cases hr), fun j hj => ?_⟩
    by_cases hji : j = i
    · subst hji; exact hy.wpOpIn (noDefer_spec hnd hi).1 hi hC H
    · have := ready_mono hj hji
      rw [H.2.1] at this
      cases this
  | succ fuel ih =>
    intro listed a w hcl hfree hsl hr hy H
    have hC : C w := H.cls (by rw [getD_set_ne true his]; exact hsl)
    refine ⟨fun _ => hC, (fun h => by rw [h] at hr; cases hr), fun j hj => ?_⟩
    by_cases hji : j = i
    · subst hji; exact hy.wpOpIn (noDefer_spec hnd hi).1 hi hC H
    · have h1 := H.2.2 j (ready_mono hj hji)
      obtain ⟨hjun, oj, hoj, hall⟩ := mem_ready.1 hj
      have h0 := (mem_ready.1 hr).1
      have hun : ∀ e ∈ oj.after, Region.binds .any e = true → e.on ≠ i := fun e he hb heq => by
        have h1 := hall e he hb
        rw [heq] at h1
        rcases Nat.lt_or_ge i listed.size with h' | h'
        · simp [h'] at h0 h1; rw [h0] at h1; cases h1
        · simp [Array.getElem?_eq_none h'] at h1
      have hjs : j ≠ s := by
        rintro rfl
        have h2 := waitsT_done hcl hwt hoj fun e he hb => by
          have := hall e he hb
          rw [Array.getD_eq_getD_getElem?]
          simpa using this
        rw [Array.getD_eq_getD_getElem?] at h0 h2
        cases hh : listed[i]? with
        | none => rw [hh] at h2; cases h2
        | some b => rw [hh] at h0 h2; simp at h0 h2; rw [h0] at h2; cases h2
      have h2 := wpOpIn_putC (C := C) (noDefer_spec hnd hoj).1 hoj (hfree j oj hoj hji hjun hun) (noDefer_spec hnd hi).2 (noDefer_spec hnd hoj).2 (fun _ _ _ hf => hf) hy h1
      have hfree' : ∀ k ok, ops[k]? = some ok → k ≠ i → (listed.setIfInBounds j true).getD k true = false →
          (∀ e ∈ ok.after, Region.binds .any e = true → e.on ≠ i) → oi.apart ops ok = true := fun k ok hk hki hun hno => by
        refine hfree k ok hk hki ?_ hno
        by_cases hjk : j = k
        · subst hjk; exact hjun
        · rw [getD_set_ne true hjk] at hun; exact hun
      refine wpOpIn_mono (fun a' w' h3 => ih (listed.setIfInBounds j true) a' w' (closed_set hcl hj) hfree' (by rw [getD_set_ne true hjs]; exact hsl) (ready_mono hr (Ne.symm hji)) h3.1 ?_) h2
      rw [Array.setIfInBounds_comm _ _ hji]
      exact h3.2
end
section
variable {P : Program} {X : Cx} {e : Env} {l : List (Nat × Obj)} {H : Hp} {D : List Deferred} {k : List It} {ops : Array Oper}
attribute [local semireducible] TS
theorem TS.takeT {lc : List (Nat × Obj)} {Hc : Hp} {s fuel d : Nat} {listed : Array Bool} {o : Oper} {v : Value} (i : Nat) (hi : ops[i]? = some o) (hnd : noDefer ops = true) (hr : (Region.ready .any ops listed).contains i = true) (hf : Region.free .any ops listed i = true)
    (hws : (waitsT ops 8 s i && !(Nat.beq i s) && !(listed.getD s true) && closedB ops listed) = true)
    (hv : PV P e lc Hc o v) (hw : Wanted e ops o) (hd : o.dst = some d) (hN : Nat.blt d X.N = true) (h : TS P X ((d, v) :: e) l H D ops lc Hc s fuel (listed.setIfInBounds i true) k) :
    TS P X e l H D ops lc Hc s (fuel + 1) listed k := fun a w ha hw' => by
  simp only [Bool.and_eq_true, Bool.not_eq_true'] at hws
  refine wpAnyS_firstT (v := v) hi hnd (fun he => by rw [he, Nat.beq_refl] at hws; simp at hws) hws.1.1.1 fuel listed a w (closed_spec hws.2) (Region.free_spec hi hf) hws.1.2 (by simpa using hr) (.inl ⟨hw.get X D a ha, fun w2 hC => ?_⟩) ?_
  · exact hv.get { X with w1 := w2, H0 := Hc, Pt := own0 lc } D a w2 ⟨ha.size, ha.get, ha.dfr⟩ (hC.re rfl rfl rfl)
  · rw [hd]; exact h _ w (ha.put (by simpa using hN) v) hw'
end
/-- what is still to be shown, shut -/
structure Hd (p : Prop) : Prop where
  out : p
theorem J1 {p q : Prop} (h : p) (s : Hd p → q := by (intro h; (first | (show T _ _ _ _ _ _ (.code _ :: _); first | refine sq ?_ | refine sr ?_ | refine T.skip ?_ | refine T.block ?_ | refine T.exit rfl ?_ | (show T _ _ _ _ _ _ (.code (.cond _ _ _) :: _); first | refine sC rfl zO ?_ | refine sd rfl zO ?_ | refine T.condT rfl rfl ?_ | refine T.condF rfl rfl ?_)) | refine so ?_ | refine T.blkEnd ?_ | (show T _ _ _ _ _ _ (.ops _ (⟨_, .move _, _, _, _, none⟩ :: _) :: _); refine sm ?_) | (show T _ _ _ _ _ _ (.ops _ (⟨_, .assign _, _, _, _, none⟩ :: _) :: _); refine sa ?_) | (show T _ _ _ _ _ _ (.ops _ (⟨_, .fieldAddr _ _ _, _, _, _, none⟩ :: _) :: _); refine sf ?_) | (show T _ _ _ _ _ _ (.ops _ (⟨_, .binOp .lss _ _ _ _, _, _, _, none⟩ :: _) :: _); refine sv (PV.lss rfl rfl) ?_) | (show T _ _ _ _ _ _ (.ops _ (⟨_, .binOp .add _ _ _ _, _, _, _, none⟩ :: _) :: _); refine sv (PV.add rfl rfl zO) ?_) | (show T _ _ _ _ _ _ (.ops _ (⟨_, .extract _ _, _, _, _, none⟩ :: _) :: _); refine sv (PV.extract rfl rfl) ?_) | (show T _ _ _ _ _ _ (.ops _ (⟨_, .nilCheck _, _, _, _, none⟩ :: _) :: _); refine sv (PV.nilCheck rfl) ?_) | (show T _ _ _ _ _ _ (.ops _ (⟨_, .call ⟨.builtin .len, _, _⟩, _, _, _, none⟩ :: _) :: _); first | refine sv (PV.lenSl rfl) ?_ | refine sv (PV.lenStr rfl) ?_) | (show T _ _ _ _ _ _ (.ops _ (⟨_, .pick _ _ _, _, _, _, none⟩ :: _) :: _); first | refine sT ?_ | refine sF ?_) | (show T _ _ _ _ _ _ (.ops _ (⟨_, .binOp .gtr _ _ _ _, _, _, _, none⟩ :: _) :: _); refine sv (PV.gtr rfl rfl) ?_) | (show T _ _ _ _ _ _ (.ops _ (⟨_, .binOp .sub _ _ _ _, _, _, _, none⟩ :: _) :: _); refine sv (PV.sub rfl rfl zO) ?_) | (show T _ _ _ _ _ _ (.ops _ (⟨_, .indexAddr _ _ _, _, _, _, none⟩ :: _) :: _); first | refine sv (PV.indexAddr rfl rfl zO) ?_ | refine sv (PV.indexArrG rfl rfl zO) ?_) | (show T _ _ _ _ _ _ (.ops _ (⟨_, .unOp .not _ _, _, _, _, none⟩ :: _) :: _); refine sv (PV.not rfl) ?_) | (show T _ _ _ _ _ _ (.ops _ (⟨_, .binOp .eql _ _ _ _, _, _, _, none⟩ :: _) :: _); first | refine sv (PV.eql rfl rfl) ?_ | refine sv (PV.seql rfl rfl) ?_) | (show T _ _ _ _ _ _ (.ops _ (⟨_, .binOp .neq _ _ _ _, _, _, _, none⟩ :: _) :: _); first | refine sv (PV.neq rfl rfl) ?_ | refine sv (PV.sneq rfl rfl) ?_ | refine sv (PV.bneq rfl rfl) ?_) | (show T _ _ _ _ _ _ (.ops _ (⟨_, .binOp .geq _ _ _ _, _, _, _, none⟩ :: _) :: _); refine sv (PV.geq rfl rfl) ?_) | (show T _ _ _ _ _ _ (.ops _ (⟨_, .binOp .leq _ _ _ _, _, _, _, none⟩ :: _) :: _); refine sv (PV.leq rfl rfl) ?_) | (show T _ _ _ _ _ _ (.ops _ (⟨_, .convert _ _ _, _, _, _, none⟩ :: _) :: _); refine sv (PV.conv64 rfl zO) ?_) | (show T _ _ _ _ _ _ (.ops _ (⟨_, .binOp .mul _ _ _ _, _, _, _, none⟩ :: _) :: _); refine sv (PV.mul rfl rfl zO) ?_) | (show T _ _ _ _ _ _ (.ops _ (⟨_, .binOp .rem _ _ _ _, _, _, _, none⟩ :: _) :: _); refine sv (PV.rem rfl rfl zO) ?_) | (show T _ _ _ _ _ _ (.ops _ (⟨_, .load _ _, _, _, _, none⟩ :: _) :: _); first | refine sl ?_ | refine sv (PV.loadAll rfl zq0 zX) ?_) | (show T _ _ _ _ _ _ (.ops _ (⟨_, _, _, _, _, some _⟩ :: _) :: _); first | refine sp ?_ | refine su ?_ | (show T _ _ _ _ _ _ (.ops _ (⟨_, .binOp .lss _ _ _ _, _, _, _, some _⟩ :: _) :: _); first | refine gv (PV.lss rfl rfl) ?_) | (show T _ _ _ _ _ _ (.ops _ (⟨_, .call ⟨.builtin .len, _, _⟩, _, _, _, some _⟩ :: _) :: _); first | refine gv (PV.lenSl rfl) ?_ | refine gv (PV.lenStr rfl) ?_) | (show T _ _ _ _ _ _ (.ops _ (⟨_, .indexAddr _ _ _, _, _, _, some _⟩ :: _) :: _); first | refine gv (PV.indexAddr rfl rfl zO) ?_) | (show T _ _ _ _ _ _ (.ops _ (⟨_, .binOp .neq _ _ _ _, _, _, _, some _⟩ :: _) :: _); first | refine gv (PV.neq rfl rfl) ?_) | (show T _ _ _ _ _ _ (.ops _ (⟨_, .binOp .gtr _ _ _ _, _, _, _, some _⟩ :: _) :: _); first | refine gv (PV.gtr rfl rfl) ?_) | (show T _ _ _ _ _ _ (.ops _ (⟨_, .binOp .sub _ _ _ _, _, _, _, some _⟩ :: _) :: _); first | refine gv (PV.sub rfl rfl zO) ?_) | (show T _ _ _ _ _ _ (.ops _ (⟨_, .binOp .eql _ _ _ _, _, _, _, some _⟩ :: _) :: _); first | refine gv (PV.eql rfl rfl) ?_) | (show T _ _ _ _ _ _ (.ops _ (⟨_, .unOp .not _ _, _, _, _, some _⟩ :: _) :: _); first | refine gv (PV.not rfl) ?_) | (show T _ _ _ _ _ _ (.ops _ (⟨_, .binOp .geq _ _ _ _, _, _, _, some _⟩ :: _) :: _); first | refine gv (PV.geq rfl rfl) ?_) | (show T _ _ _ _ _ _ (.ops _ (⟨_, .binOp .leq _ _ _ _, _, _, _, some _⟩ :: _) :: _); first | refine gv (PV.leq rfl rfl) ?_) | (show T _ _ _ _ _ _ (.ops _ (⟨_, .pick _ _ _, _, _, _, some _⟩ :: _) :: _); first | refine gv (PV.pickT rfl rfl rfl) ?_ | refine gv (PV.pickF rfl rfl rfl) ?_) | (show T _ _ _ _ _ _ (.ops _ (⟨_, .binOp .mul _ _ _ _, _, _, _, some _⟩ :: _) :: _); first | refine gv (PV.mul rfl rfl zO) ?_) | (show T _ _ _ _ _ _ (.ops _ (⟨_, .move _, _, _, _, some _⟩ :: _) :: _); first | refine gm ?_) | (show T _ _ _ _ _ _ (.ops _ (⟨_, .fieldAddr _ _ _, _, _, _, some _⟩ :: _) :: _); first | refine gf ?_) | (show T _ _ _ _ _ _ (.ops _ (⟨_, .nilCheck _, _, _, _, some _⟩ :: _) :: _); first | refine gv (PV.nilCheck rfl) ?_) | (show T _ _ _ _ _ _ (.ops _ (⟨_, .load _ _, _, _, _, some _⟩ :: _) :: _); first | refine gl ?_ | refine gv (PV.loadAll rfl zq0 zX) ?_))); exact h.out)) : q := s ⟨h⟩
theorem I1 {p q : Prop} (h : p) (s : Hd p → q := by (intro h; (first | refine TQ.nil ?_ | (show TQ _ _ _ _ _ _ _ (⟨_, .binOp .lss _ _ _ _, _, _, _, none⟩ :: _) _; refine TQ.pv (PV.lss rfl rfl) Wanted.none rfl rfl ?_) | (show TQ _ _ _ _ _ _ _ (⟨_, .binOp .add _ _ _ _, _, _, _, none⟩ :: _) _; refine TQ.pv (PV.add rfl rfl zO) Wanted.none rfl rfl ?_) | (show TQ _ _ _ _ _ _ _ (⟨_, .call ⟨.builtin .len, _, _⟩, _, _, _, none⟩ :: _) _; first | refine TQ.pv (PV.lenSl rfl) Wanted.none rfl rfl ?_ | refine TQ.pv (PV.lenStr rfl) Wanted.none rfl rfl ?_) | (show TQ _ _ _ _ _ _ _ (⟨_, .extract _ _, _, _, _, none⟩ :: _) _; refine TQ.pv (PV.extract rfl rfl) Wanted.none rfl rfl ?_) | (show TQ _ _ _ _ _ _ _ (⟨_, .indexAddr _ _ _, _, _, _, none⟩ :: _) _; first | refine TQ.pv (PV.indexAddr rfl rfl zO) Wanted.none rfl rfl ?_ | refine TQ.pv (PV.indexArrG rfl rfl zO) Wanted.none rfl rfl ?_) | (show TQ _ _ _ _ _ _ _ (⟨_, .binOp .neq _ _ _ _, _, _, _, none⟩ :: _) _; refine TQ.pv (PV.sneq rfl rfl) Wanted.none rfl rfl ?_) | (show TQ _ _ _ _ _ _ _ (⟨_, .binOp .gtr _ _ _ _, _, _, _, none⟩ :: _) _; refine TQ.pv (PV.gtr rfl rfl) Wanted.none rfl rfl ?_) | (show TQ _ _ _ _ _ _ _ (⟨_, .binOp .sub _ _ _ _, _, _, _, none⟩ :: _) _; refine TQ.pv (PV.sub rfl rfl zO) Wanted.none rfl rfl ?_) | (show TQ _ _ _ _ _ _ _ (⟨_, .binOp .eql _ _ _ _, _, _, _, none⟩ :: _) _; refine TQ.pv (PV.eql rfl rfl) Wanted.none rfl rfl ?_) | (show TQ _ _ _ _ _ _ _ (⟨_, .binOp .geq _ _ _ _, _, _, _, none⟩ :: _) _; refine TQ.pv (PV.geq rfl rfl) Wanted.none rfl rfl ?_) | (show TQ _ _ _ _ _ _ _ (⟨_, .pick _ _ _, _, _, _, none⟩ :: _) _; first | refine TQ.pv (PV.pickT rfl rfl rfl) Wanted.none rfl rfl ?_ | refine TQ.pv (PV.pickF rfl rfl rfl) Wanted.none rfl rfl ?_) | (show TQ _ _ _ _ _ _ _ (⟨_, .move _, _, _, _, none⟩ :: _) _; refine TQ.pv (PV.move rfl) Wanted.none rfl rfl ?_) | (show TQ _ _ _ _ _ _ _ (⟨_, .assign _, _, _, _, none⟩ :: _) _; refine TQ.pv (PV.assign rfl) Wanted.none rfl rfl ?_) | (show TQ _ _ _ _ _ _ _ (⟨_, .fieldAddr _ _ _, _, _, _, none⟩ :: _) _; refine TQ.pv (PV.fieldAddr rfl) Wanted.none rfl rfl ?_) | (show TQ _ _ _ _ _ _ _ (⟨_, .nilCheck _, _, _, _, none⟩ :: _) _; refine TQ.pv (PV.nilCheck rfl) Wanted.none rfl rfl ?_) | (show TQ _ _ _ _ _ _ _ (⟨_, .load _ _, _, _, _, none⟩ :: _) _; refine TQ.pv (PV.load1 rfl zq0 rfl) Wanted.none rfl rfl ?_) | (show TQ _ _ _ _ _ _ _ (⟨_, _, _, _, _, some _⟩ :: _) _; first | refine TQ.pass (Unwanted.guard rfl rfl rfl) rfl rfl ?_ | refine TQ.pass (Unwanted.undef rfl rfl) rfl rfl ?_ | (show TQ _ _ _ _ _ _ _ (⟨_, .indexAddr _ _ _, _, _, _, some _⟩ :: _) _; first | refine TQ.pv (PV.indexAddr rfl rfl zO) (Wanted.guard rfl rfl rfl) rfl rfl ?_) | (show TQ _ _ _ _ _ _ _ (⟨_, .binOp .neq _ _ _ _, _, _, _, some _⟩ :: _) _; first | refine TQ.pv (PV.neq rfl rfl) (Wanted.guard rfl rfl rfl) rfl rfl ?_) | (show TQ _ _ _ _ _ _ _ (⟨_, .pick _ _ _, _, _, _, some _⟩ :: _) _; first | refine TQ.pv (PV.pickT rfl rfl rfl) (Wanted.guard rfl rfl rfl) rfl rfl ?_) | (show TQ _ _ _ _ _ _ _ (⟨_, .move _, _, _, _, some _⟩ :: _) _; first | refine TQ.pv (PV.move rfl) (Wanted.guard rfl rfl rfl) rfl rfl ?_) | (show TQ _ _ _ _ _ _ _ (⟨_, .fieldAddr _ _ _, _, _, _, some _⟩ :: _) _; first | refine TQ.pv (PV.fieldAddr rfl) (Wanted.guard rfl rfl rfl) rfl rfl ?_) | (show TQ _ _ _ _ _ _ _ (⟨_, .nilCheck _, _, _, _, some _⟩ :: _) _; first | refine TQ.pv (PV.nilCheck rfl) (Wanted.guard rfl rfl rfl) rfl rfl ?_) | (show TQ _ _ _ _ _ _ _ (⟨_, .load _ _, _, _, _, some _⟩ :: _) _; first | refine TQ.pv (PV.load1 rfl zq0 rfl) (Wanted.guard rfl rfl rfl) rfl rfl ?_ | refine TQ.pv (PV.loadAll rfl zq0 zX) (Wanted.guard rfl rfl rfl) rfl rfl ?_))); exact h.out)) : q := s ⟨h⟩
theorem I2 {p q : Prop} (h : p) (s : Hd p → q := by (intro h; refine I1 ?_; refine I1 ?_; exact h.out)) : q := s ⟨h⟩
theorem I3 {p q : Prop} (h : p) (s : Hd p → q := by (intro h; refine I2 ?_; refine I1 ?_; exact h.out)) : q := s ⟨h⟩
theorem I4 {p q : Prop} (h : p) (s : Hd p → q := by (intro h; refine I2 ?_; refine I2 ?_; exact h.out)) : q := s ⟨h⟩
theorem I5 {p q : Prop} (h : p) (s : Hd p → q := by (intro h; refine I4 ?_; refine I1 ?_; exact h.out)) : q := s ⟨h⟩
theorem I6 {p q : Prop} (h : p) (s : Hd p → q := by (intro h; refine I3 ?_; refine I3 ?_; exact h.out)) : q := s ⟨h⟩
theorem I7 {p q : Prop} (h : p) (s : Hd p → q := by (intro h; refine I6 ?_; refine I1 ?_; exact h.out)) : q := s ⟨h⟩
theorem I8 {p q : Prop} (h : p) (s : Hd p → q := by (intro h; refine I4 ?_; refine I4 ?_; exact h.out)) : q := s ⟨h⟩
theorem I9 {p q : Prop} (h : p) (s : Hd p → q := by (intro h; refine I8 ?_; refine I1 ?_; exact h.out)) : q := s ⟨h⟩
theorem I10 {p q : Prop} (h : p) (s : Hd p → q := by (intro h; refine I5 ?_; refine I5 ?_; exact h.out)) : q := s ⟨h⟩
theorem I11 {p q : Prop} (h : p) (s : Hd p → q := by (intro h; refine I10 ?_; refine I1 ?_; exact h.out)) : q := s ⟨h⟩
theorem I12 {p q : Prop} (h : p) (s : Hd p → q := by (intro h; refine I6 ?_; refine I6 ?_; exact h.out)) : q := s ⟨h⟩
theorem I14 {p q : Prop} (h : p) (s : Hd p → q := by (intro h; refine I7 ?_; refine I7 ?_; exact h.out)) : q := s ⟨h⟩
theorem I15 {p q : Prop} (h : p) (s : Hd p → q := by (intro h; refine I14 ?_; refine I1 ?_; exact h.out)) : q := s ⟨h⟩
theorem I16 {p q : Prop} (h : p) (s : Hd p → q := by (intro h; refine I8 ?_; refine I8 ?_; exact h.out)) : q := s ⟨h⟩
theorem I18 {p q : Prop} (h : p) (s : Hd p → q := by (intro h; refine I9 ?_; refine I9 ?_; exact h.out)) : q := s ⟨h⟩
theorem J2 {p q : Prop} (h : p) (s : Hd p → q := by (intro h; refine J1 ?_; refine J1 ?_; exact h.out)) : q := s ⟨h⟩
theorem J3 {p q : Prop} (h : p) (s : Hd p → q := by (intro h; refine J2 ?_; refine J1 ?_; exact h.out)) : q := s ⟨h⟩
theorem J4 {p q : Prop} (h : p) (s : Hd p → q := by (intro h; refine J2 ?_; refine J2 ?_; exact h.out)) : q := s ⟨h⟩
theorem J5 {p q : Prop} (h : p) (s : Hd p → q := by (intro h; refine J4 ?_; refine J1 ?_; exact h.out)) : q := s ⟨h⟩
theorem J6 {p q : Prop} (h : p) (s : Hd p → q := by (intro h; refine J3 ?_; refine J3 ?_; exact h.out)) : q := s ⟨h⟩
theorem J7 {p q : Prop} (h : p) (s : Hd p → q := by (intro h; refine J6 ?_; refine J1 ?_; exact h.out)) : q := s ⟨h⟩
theorem J8 {p q : Prop} (h : p) (s : Hd p → q := by (intro h; refine J4 ?_; refine J4 ?_; exact h.out)) : q := s ⟨h⟩
theorem J9 {p q : Prop} (h : p) (s : Hd p → q := by (intro h; refine J8 ?_; refine J1 ?_; exact h.out)) : q := s ⟨h⟩
theorem J10 {p q : Prop} (h : p) (s : Hd p → q := by (intro h; refine J5 ?_; refine J5 ?_; exact h.out)) : q := s ⟨h⟩
theorem J11 {p q : Prop} (h : p) (s : Hd p → q := by (intro h; refine J10 ?_; refine J1 ?_; exact h.out)) : q := s ⟨h⟩
theorem J12 {p q : Prop} (h : p) (s : Hd p → q := by (intro h; refine J6 ?_; refine J6 ?_; exact h.out)) : q := s ⟨h⟩
theorem J13 {p q : Prop} (h : p) (s : Hd p → q := by (intro h; refine J12 ?_; refine J1 ?_; exact h.out)) : q := s ⟨h⟩
theorem J14 {p q : Prop} (h : p) (s : Hd p → q := by (intro h; refine J7 ?_; refine J7 ?_; exact h.out)) : q := s ⟨h⟩
theorem J15 {p q : Prop} (h : p) (s : Hd p → q := by (intro h; refine J14 ?_; refine J1 ?_; exact h.out)) : q := s ⟨h⟩
theorem J16 {p q : Prop} (h : p) (s : Hd p → q := by (intro h; refine J8 ?_; refine J8 ?_; exact h.out)) : q := s ⟨h⟩
theorem J17 {p q : Prop} (h : p) (s : Hd p → q := by (intro h; refine J16 ?_; refine J1 ?_; exact h.out)) : q := s ⟨h⟩
theorem J18 {p q : Prop} (h : p) (s : Hd p → q := by (intro h; refine J9 ?_; refine J9 ?_; exact h.out)) : q := s ⟨h⟩
theorem J19 {p q : Prop} (h : p) (s : Hd p → q := by (intro h; refine J18 ?_; refine J1 ?_; exact h.out)) : q := s ⟨h⟩
theorem J20 {p q : Prop} (h : p) (s : Hd p → q := by (intro h; refine J10 ?_; refine J10 ?_; exact h.out)) : q := s ⟨h⟩
theorem J21 {p q : Prop} (h : p) (s : Hd p → q := by (intro h; refine J20 ?_; refine J1 ?_; exact h.out)) : q := s ⟨h⟩
theorem J22 {p q : Prop} (h : p) (s : Hd p → q := by (intro h; refine J11 ?_; refine J11 ?_; exact h.out)) : q := s ⟨h⟩
theorem J23 {p q : Prop} (h : p) (s : Hd p → q := by (intro h; refine J22 ?_; refine J1 ?_; exact h.out)) : q := s ⟨h⟩
theorem J24 {p q : Prop} (h : p) (s : Hd p → q := by (intro h; refine J12 ?_; refine J12 ?_; exact h.out)) : q := s ⟨h⟩
theorem J25 {p q : Prop} (h : p) (s : Hd p → q := by (intro h; refine J24 ?_; refine J1 ?_; exact h.out)) : q := s ⟨h⟩
theorem J26 {p q : Prop} (h : p) (s : Hd p → q := by (intro h; refine J13 ?_; refine J13 ?_; exact h.out)) : q := s ⟨h⟩
theorem J27 {p q : Prop} (h : p) (s : Hd p → q := by (intro h; refine J26 ?_; refine J1 ?_; exact h.out)) : q := s ⟨h⟩
theorem J28 {p q : Prop} (h : p) (s : Hd p → q := by (intro h; refine J14 ?_; refine J14 ?_; exact h.out)) : q := s ⟨h⟩
theorem J29 {p q : Prop} (h : p) (s : Hd p → q := by (intro h; refine J28 ?_; refine J1 ?_; exact h.out)) : q := s ⟨h⟩
theorem J30 {p q : Prop} (h : p) (s : Hd p → q := by (intro h; refine J15 ?_; refine J15 ?_; exact h.out)) : q := s ⟨h⟩
theorem J31 {p q : Prop} (h : p) (s : Hd p → q := by (intro h; refine J30 ?_; refine J1 ?_; exact h.out)) : q := s ⟨h⟩
theorem J32 {p q : Prop} (h : p) (s : Hd p → q := by (intro h; refine J16 ?_; refine J16 ?_; exact h.out)) : q := s ⟨h⟩
theorem J33 {p q : Prop} (h : p) (s : Hd p → q := by (intro h; refine J32 ?_; refine J1 ?_; exact h.out)) : q := s ⟨h⟩
theorem J34 {p q : Prop} (h : p) (s : Hd p → q := by (intro h; refine J17 ?_; refine J17 ?_; exact h.out)) : q := s ⟨h⟩
theorem J35 {p q : Prop} (h : p) (s : Hd p → q := by (intro h; refine J34 ?_; refine J1 ?_; exact h.out)) : q := s ⟨h⟩
theorem J36 {p q : Prop} (h : p) (s : Hd p → q := by (intro h; refine J18 ?_; refine J18 ?_; exact h.out)) : q := s ⟨h⟩
theorem J37 {p q : Prop} (h : p) (s : Hd p → q := by (intro h; refine J36 ?_; refine J1 ?_; exact h.out)) : q := s ⟨h⟩
theorem J38 {p q : Prop} (h : p) (s : Hd p → q := by (intro h; refine J19 ?_; refine J19 ?_; exact h.out)) : q := s ⟨h⟩
theorem J39 {p q : Prop} (h : p) (s : Hd p → q := by (intro h; refine J38 ?_; refine J1 ?_; exact h.out)) : q := s ⟨h⟩
theorem J40 {p q : Prop} (h : p) (s : Hd p → q := by (intro h; refine J20 ?_; refine J20 ?_; exact h.out)) : q := s ⟨h⟩
theorem J41 {p q : Prop} (h : p) (s : Hd p → q := by (intro h; refine J40 ?_; refine J1 ?_; exact h.out)) : q := s ⟨h⟩
theorem J42 {p q : Prop} (h : p) (s : Hd p → q := by (intro h; refine J21 ?_; refine J21 ?_; exact h.out)) : q := s ⟨h⟩
theorem J43 {p q : Prop} (h : p) (s : Hd p → q := by (intro h; refine J42 ?_; refine J1 ?_; exact h.out)) : q := s ⟨h⟩
theorem yq0 {p q : Prop} (h : p) (s : Hd p → q := by (intro h; refine T.pv (PV.move rfl) (Wanted.guard rfl rfl zA) rfl rfl ?_; exact h.out)) : q := s ⟨h⟩
theorem yq1 {p q : Prop} (h : p) (s : Hd p → q := by (intro h; refine T.store1 Wanted.none rfl rfl rfl zq14 zq13 ?_; exact h.out)) : q := s ⟨h⟩
theorem yq2 {p q : Prop} (h : p) (s : Hd p → q := by (intro h; refine T.storeA Wanted.none rfl rfl zq8 zX zq14 zq13 ?_; exact h.out)) : q := s ⟨h⟩
theorem yq3 {p q : Prop} (h : p) (s : Hd p → q := by (intro h; refine TO.take 0 rfl zK zK zK (PV.move rfl) Wanted.none rfl rfl ?_; refine TO.take 1 rfl zK zK zK (PV.move rfl) Wanted.none rfl rfl ?_; exact h.out)) : q := s ⟨h⟩
theorem yq4 {p q : Prop} (h : p) (s : Hd p → q := by (intro h; refine so ?_; refine TS.back ?_; exact h.out)) : q := s ⟨h⟩
theorem yq5 {p q : Prop} (h : p) (s : Hd p → q := by (intro h; refine T.pass (Unwanted.guard rfl rfl zA) rfl rfl ?_; refine T.pass (Unwanted.guard rfl rfl zA) rfl rfl ?_; exact h.out)) : q := s ⟨h⟩
theorem yq6 {p q : Prop} (h : p) (s : Hd p → q := by (intro h; refine T.condF rfl zA ?_; exact h.out)) : q := s ⟨h⟩
theorem yq7 {p q : Prop} (h : p) (s : Hd p → q := by (intro h; refine TS.take 0 rfl zK zK zK zK (PV.move rfl) Wanted.none rfl rfl ?_; refine TS.take 1 rfl zK zK zK zK (PV.move rfl) Wanted.none rfl rfl ?_; exact h.out)) : q := s ⟨h⟩
theorem yq8 {p q : Prop} (h : p) (s : Hd p → q := by (intro h; refine TS.takeT 16 rfl zK zK zK zK (PV.nilCheck rfl) Wanted.none rfl rfl ?_; refine TS.take 17 rfl zK zK zK zK (PV.fieldAddr rfl) Wanted.none rfl rfl ?_; exact h.out)) : q := s ⟨h⟩
theorem yq9 {p q : Prop} (h : p) (s : Hd p → q := by (intro h; refine T.condT rfl zA ?_; exact h.out)) : q := s ⟨h⟩
theorem yq10 {p q : Prop} (h : p) (s : Hd p → q := by (intro h; refine sv (PV.loadSub0 rfl zA) ?_; exact h.out)) : q := s ⟨h⟩
theorem yq11 {p q : Prop} (h : p) (s : Hd p → q := by (intro h; refine yq4 ?_; refine TS.done zK zK ?_; exact h.out)) : q := s ⟨h⟩
theorem yq12 {p q : Prop} (h : p) (s : Hd p → q := by (intro h; refine TO.take 5 rfl zK zK zK (PV.move rfl) Wanted.none rfl rfl ?_; refine TO.take 6 rfl zK zK zK (PV.move rfl) Wanted.none rfl rfl ?_; exact h.out)) : q := s ⟨h⟩
theorem yq13 {p q : Prop} (h : p) (s : Hd p → q := by (intro h; refine TO.take 2 rfl zK zK zK (PV.move rfl) Wanted.none rfl rfl ?_; refine TO.take 3 rfl zK zK zK (PV.indexAddr rfl rfl zO) Wanted.none rfl rfl ?_; exact h.out)) : q := s ⟨h⟩
theorem yq14 {p q : Prop} (h : p) (s : Hd p → q := by (intro h; refine TQ.pv (PV.move rfl) (Wanted.guard rfl rfl zA) rfl rfl ?_; refine TQ.pv (PV.move rfl) (Wanted.guard rfl rfl zA) rfl rfl ?_; exact h.out)) : q := s ⟨h⟩
theorem yq15 {p q : Prop} (h : p) (s : Hd p → q := by (intro h; refine TS.take 5 rfl zK zK zK zK (PV.move rfl) Wanted.none rfl rfl ?_; refine TS.take 6 rfl zK zK zK zK (PV.move rfl) Wanted.none rfl rfl ?_; exact h.out)) : q := s ⟨h⟩
theorem yq16 {p q : Prop} (h : p) (s : Hd p → q := by (intro h; refine TQ.pass (Unwanted.guard rfl rfl zA) rfl rfl ?_; refine TQ.pass (Unwanted.guard rfl rfl zA) rfl rfl ?_; exact h.out)) : q := s ⟨h⟩
theorem yq17 {p q : Prop} (h : p) (s : Hd p → q := by (intro h; refine T.pv (PV.lss rfl rfl) (Wanted.guard rfl rfl zA) rfl rfl ?_; refine sv (PV.pickT rfl zA rfl) ?_; exact h.out)) : q := s ⟨h⟩
theorem yq18 {p q : Prop} (h : p) (s : Hd p → q := by (intro h; refine yq4 ?_; refine TS.take 14 rfl zK zK zK zK (PV.indexAddr rfl rfl zO) Wanted.none rfl rfl ?_; exact h.out)) : q := s ⟨h⟩
theorem yq19 {p q : Prop} (h : p) (s : Hd p → q := by (intro h; refine yq4 ?_; refine TS.take 16 rfl zK zK zK zK (PV.indexAddr rfl rfl zO) Wanted.none rfl rfl ?_; exact h.out)) : q := s ⟨h⟩
theorem yq20 {p q : Prop} (h : p) (s : Hd p → q := by (intro h; refine sv (PV.loadSubAll rfl zA zX) ?_; exact h.out)) : q := s ⟨h⟩
theorem yq21 {p q : Prop} (h : p) (s : Hd p → q := by (intro h; refine TS.take 2 rfl zK zK zK zK (PV.move rfl) Wanted.none rfl rfl ?_; refine TS.take 3 rfl zK zK zK zK (PV.move rfl) Wanted.none rfl rfl ?_; exact h.out)) : q := s ⟨h⟩
theorem yq22 {p q : Prop} (h : p) (s : Hd p → q := by (intro h; refine TO.take 3 rfl zK zK zK (PV.move rfl) Wanted.none rfl rfl ?_; exact h.out)) : q := s ⟨h⟩
theorem yq23 {p q : Prop} (h : p) (s : Hd p → q := by (intro h; refine TQ.pv (PV.loadSub rfl zA rfl) Wanted.none rfl rfl ?_; exact h.out)) : q := s ⟨h⟩
theorem yq24 {p q : Prop} (h : p) (s : Hd p → q := by (intro h; refine J2 ?_; refine TS.back ?_; exact h.out)) : q := s ⟨h⟩
theorem yq25 {p q : Prop} (h : p) (s : Hd p → q := by (intro h; refine sv (PV.convB rfl zO) ?_; refine sv (PV.shrR rfl rfl zA zO) ?_; exact h.out)) : q := s ⟨h⟩
theorem yq26 {p q : Prop} (h : p) (s : Hd p → q := by (intro h; refine TS.ways [19] zK rfl (.inl zK) ⟨⟨_, rfl, ?_⟩, trivial⟩; exact h.out)) : q := s ⟨h⟩
theorem yq27 {p q : Prop} (h : p) (s : Hd p → q := by (intro h; refine TS.ways [20] zK rfl (.inl zK) ⟨⟨_, rfl, ?_⟩, trivial⟩; exact h.out)) : q := s ⟨h⟩
theorem yq28 {p q : Prop} (h : p) (s : Hd p → q := by (intro h; refine TS.ways [21] zK rfl (.inl zK) ⟨⟨_, rfl, ?_⟩, trivial⟩; exact h.out)) : q := s ⟨h⟩
theorem yq29 {p q : Prop} (h : p) (s : Hd p → q := by (intro h; refine TS.ways [18] zK rfl (.inr ⟨zq4, zq19⟩) ⟨⟨_, rfl, ?_⟩, trivial⟩; exact h.out)) : q := s ⟨h⟩
theorem yq30 {p q : Prop} (h : p) (s : Hd p → q := by (intro h; refine so ?_; refine TO.back ?_; exact h.out)) : q := s ⟨h⟩
theorem yq31 {p q : Prop} (h : p) (s : Hd p → q := by (intro h; refine J5 ?_; refine yq9 ?_; exact h.out)) : q := s ⟨h⟩
theorem yq32 {p q : Prop} (h : p) (s : Hd p → q := by (intro h; refine TS.take 11 rfl zK zK zK zK (PV.move rfl) Wanted.none rfl rfl ?_; refine TS.take 12 rfl zK zK zK zK (PV.indexAddr rfl rfl zO) Wanted.none rfl rfl ?_; exact h.out)) : q := s ⟨h⟩
theorem yq33 {p q : Prop} (h : p) (s : Hd p → q := by (intro h; refine TS.take 8 rfl zK zK zK zK (PV.indexAddr rfl rfl zO) Wanted.none rfl rfl ?_; refine TS.take 10 rfl zK zK zK zK (PV.move rfl) Wanted.none rfl rfl ?_; exact h.out)) : q := s ⟨h⟩
theorem yq34 {p q : Prop} (h : p) (s : Hd p → q := by (intro h; refine TS.take 2 rfl zK zK zK zK (PV.nilCheck rfl) Wanted.none rfl rfl ?_; refine TS.take 3 rfl zK zK zK zK (PV.fieldAddr rfl) Wanted.none rfl rfl ?_; exact h.out)) : q := s ⟨h⟩
theorem yq35 {p q : Prop} (h : p) (s : Hd p → q := by (intro h; refine TO.take 1 rfl zK zK zK (PV.nilCheck rfl) Wanted.none rfl rfl ?_; refine TO.take 2 rfl zK zK zK (PV.fieldAddr rfl) Wanted.none rfl rfl ?_; exact h.out)) : q := s ⟨h⟩
theorem yq36 {p q : Prop} (h : p) (s : Hd p → q := by (intro h; refine yq12 ?_; refine TO.take 7 rfl zK zK zK (PV.indexAddr rfl rfl zO) Wanted.none rfl rfl ?_; exact h.out)) : q := s ⟨h⟩
theorem yq37 {p q : Prop} (h : p) (s : Hd p → q := by (intro h; refine TO.done zK zq4 zq19 ?_; exact h.out)) : q := s ⟨h⟩
theorem yq38 {p q : Prop} (h : p) (s : Hd p → q := by (intro h; refine TS.ways [15] zK rfl (.inr ⟨zq4, zq19⟩) ⟨⟨_, rfl, ?_⟩, trivial⟩; exact h.out)) : q := s ⟨h⟩
theorem yq39 {p q : Prop} (h : p) (s : Hd p → q := by (intro h; refine sv (PV.build rfl zq12) ?_; exact h.out)) : q := s ⟨h⟩
theorem yq40 {p q : Prop} (h : p) (s : Hd p → q := by (intro h; refine TO.take 1 rfl zK zK zK (PV.indexAddr rfl rfl zO) Wanted.none rfl rfl ?_; refine TO.take 2 rfl zK zK zK (PV.loadSub0 rfl zA) Wanted.none rfl rfl ?_; exact h.out)) : q := s ⟨h⟩
theorem yq41 {p q : Prop} (h : p) (s : Hd p → q := by (intro h; refine TO.take 4 rfl zK zK zK (PV.indexAddr rfl rfl zO) Wanted.none rfl rfl ?_; refine TO.take 5 rfl zK zK zK (PV.loadSub0 rfl zA) Wanted.none rfl rfl ?_; exact h.out)) : q := s ⟨h⟩
theorem yq42 {p q : Prop} (h : p) (s : Hd p → q := by (intro h; refine sv (PV.convB rfl zO) ?_; exact h.out)) : q := s ⟨h⟩
theorem yq43 {p q : Prop} (h : p) (s : Hd p → q := by (intro h; refine sv (PV.load1 rfl zq0 zA) ?_; exact h.out)) : q := s ⟨h⟩
theorem yq44 {p q : Prop} (h : p) (s : Hd p → q := by (intro h; refine J5 ?_; refine yq6 ?_; exact h.out)) : q := s ⟨h⟩
theorem yq45 {p q : Prop} (h : p) (s : Hd p → q := by (intro h; refine TS.ways [17] zK rfl zq20 ⟨⟨_, rfl, ?_⟩, trivial⟩; exact h.out)) : q := s ⟨h⟩
theorem yq46 {p q : Prop} (h : p) (s : Hd p → q := by (intro h; refine TO.take 8 rfl zK zK zK (PV.move rfl) Wanted.none rfl rfl ?_; refine TO.take 9 rfl zK zK zK (PV.indexAddr rfl rfl zO) Wanted.none rfl rfl ?_; exact h.out)) : q := s ⟨h⟩
theorem yq47 {p q : Prop} (h : p) (s : Hd p → q := by (intro h; refine T.pv (PV.indexArrG rfl rfl zO) (Wanted.guard rfl rfl zA) rfl rfl ?_; refine T.pv (PV.load1 rfl zq0 zA) (Wanted.guard rfl rfl zA) rfl rfl ?_; exact h.out)) : q := s ⟨h⟩
theorem yq48 {p q : Prop} (h : p) (s : Hd p → q := by (intro h; refine T.pass (Unwanted.guard rfl rfl zA) rfl rfl ?_; refine sv (PV.pickF rfl zA rfl) ?_; exact h.out)) : q := s ⟨h⟩
theorem yq49 {p q : Prop} (h : p) (s : Hd p → q := by (intro h; refine TO.take 0 rfl zK zK zK (PV.move rfl) Wanted.none rfl rfl ?_; exact h.out)) : q := s ⟨h⟩
theorem yq50 {p q : Prop} (h : p) (s : Hd p → q := by (intro h; refine yq30 ?_; refine TO.take 10 rfl zK zK zK (PV.lss rfl rfl) Wanted.none rfl rfl ?_; exact h.out)) : q := s ⟨h⟩
theorem yq51 {p q : Prop} (h : p) (s : Hd p → q := by (intro h; refine TO.take 11 rfl zK zK zK (PV.sub rfl rfl zO) (Wanted.guard rfl rfl zA) rfl rfl ?_; refine TO.take 12 rfl zK zK zK (PV.indexAddr rfl rfl zO) (Wanted.guard rfl rfl zA) rfl rfl ?_; exact h.out)) : q := s ⟨h⟩
theorem yq52 {p q : Prop} (h : p) (s : Hd p → q := by (intro h; refine T.pv (PV.nilCheck rfl) (Wanted.guard rfl rfl zA) rfl rfl ?_; refine T.pv (PV.fieldAddr rfl) (Wanted.guard rfl rfl zA) rfl rfl ?_; exact h.out)) : q := s ⟨h⟩
theorem yq53 {p q : Prop} (h : p) (s : Hd p → q := by (intro h; refine TO.take 6 rfl zK zK zK (PV.move rfl) (Wanted.guard rfl rfl zA) rfl rfl ?_; refine TO.take 7 rfl zK zK zK (PV.indexAddr rfl rfl zO) (Wanted.guard rfl rfl zA) rfl rfl ?_; exact h.out)) : q := s ⟨h⟩
theorem yq54 {p q : Prop} (h : p) (s : Hd p → q := by (intro h; refine I8 ?_; refine TQ.pv (PV.indexStr rfl rfl zO zA) (Wanted.guard rfl rfl rfl) rfl rfl ?_; exact h.out)) : q := s ⟨h⟩
theorem yq55 {p q : Prop} (h : p) (s : Hd p → q := by (intro h; refine TS.ways [15] zK rfl zq20 ⟨⟨_, rfl, ?_⟩, trivial⟩; exact h.out)) : q := s ⟨h⟩
theorem yq56 {p q : Prop} (h : p) (s : Hd p → q := by (intro h; refine TO.take 9 rfl zK zK zK (PV.move rfl) (Wanted.guard rfl rfl zA) rfl rfl ?_; refine TO.take 10 rfl zK zK zK (PV.move rfl) (Wanted.guard rfl rfl zA) rfl rfl ?_; exact h.out)) : q := s ⟨h⟩
theorem yq57 {p q : Prop} (h : p) (s : Hd p → q := by (intro h; refine TQ.pv (PV.lss rfl rfl) (Wanted.guard rfl rfl zA) rfl rfl ?_; refine TQ.pv (PV.pickT rfl zA rfl) Wanted.none rfl rfl ?_; exact h.out)) : q := s ⟨h⟩
theorem yq58 {p q : Prop} (h : p) (s : Hd p → q := by (intro h; refine TO.take 4 rfl zK zK zK (PV.move rfl) (Wanted.guard rfl rfl zA) rfl rfl ?_; refine TO.take 5 rfl zK zK zK (PV.move rfl) (Wanted.guard rfl rfl zA) rfl rfl ?_; exact h.out)) : q := s ⟨h⟩
theorem yq59 {p q : Prop} (h : p) (s : Hd p → q := by (intro h; refine J7 ?_; refine yq9 ?_; exact h.out)) : q := s ⟨h⟩
theorem yq60 {p q : Prop} (h : p) (s : Hd p → q := by (intro h; refine TO.take 15 rfl zK zK zK (PV.lss rfl rfl) (Wanted.guard rfl rfl zA) rfl rfl ?_; refine TO.take 16 rfl zK zK zK (PV.pickT rfl zA rfl) Wanted.none rfl rfl ?_; exact h.out)) : q := s ⟨h⟩
theorem yq61 {p q : Prop} (h : p) (s : Hd p → q := by (intro h; refine TS.take 1 rfl zK zK zK zK (PV.indexArr rfl rfl zO) Wanted.none rfl rfl ?_; refine TS.take 2 rfl zK zK zK zK (PV.load1 rfl zq0 rfl) Wanted.none rfl rfl ?_; exact h.out)) : q := s ⟨h⟩
theorem yq62 {p q : Prop} (h : p) (s : Hd p → q := by (intro h; refine TO.take 2 rfl zK zK zK (PV.indexAddr rfl rfl zO) Wanted.none rfl rfl ?_; refine TO.take 3 rfl zK zK zK (PV.loadSub0 rfl zA) Wanted.none rfl rfl ?_; exact h.out)) : q := s ⟨h⟩
theorem yq63 {p q : Prop} (h : p) (s : Hd p → q := by (intro h; refine TO.take 4 rfl zK zK zK (PV.sub rfl rfl zO) Wanted.none rfl rfl ?_; refine TO.take 5 rfl zK zK zK (PV.indexAddr rfl rfl zO) Wanted.none rfl rfl ?_; exact h.out)) : q := s ⟨h⟩
theorem yq64 {p q : Prop} (h : p) (s : Hd p → q := by (intro h; refine T.regionOl zK ?_; refine yq3 ?_; exact h.out)) : q := s ⟨h⟩
theorem yq65 {p q : Prop} (h : p) (s : Hd p → q := by (intro h; refine TS.take 3 rfl zK zK zK zK (PV.move rfl) Wanted.none rfl rfl ?_; refine TS.take 4 rfl zK zK zK zK (PV.loadAll rfl zq0 zX) Wanted.none rfl rfl ?_; exact h.out)) : q := s ⟨h⟩
theorem yq66 {p q : Prop} (h : p) (s : Hd p → q := by (intro h; refine J7 ?_; refine yq6 ?_; exact h.out)) : q := s ⟨h⟩
theorem yq67 {p q : Prop} (h : p) (s : Hd p → q := by (intro h; refine TQ.pv (PV.indexArrG rfl rfl zO) (Wanted.guard rfl rfl zA) rfl rfl ?_; refine TQ.pv (PV.load1 rfl zq0 zA) (Wanted.guard rfl rfl zA) rfl rfl ?_; exact h.out)) : q := s ⟨h⟩
theorem yq68 {p q : Prop} (h : p) (s : Hd p → q := by (intro h; refine TS.ways [9] zK rfl zq20 ⟨⟨_, rfl, ?_⟩, trivial⟩; exact h.out)) : q := s ⟨h⟩
theorem yq69 {p q : Prop} (h : p) (s : Hd p → q := by (intro h; refine yq0 ?_; refine yq0 ?_; exact h.out)) : q := s ⟨h⟩
theorem yq70 {p q : Prop} (h : p) (s : Hd p → q := by (intro h; refine T.regionQ zK ?_; exact h.out)) : q := s ⟨h⟩
theorem yq71 {p q : Prop} (h : p) (s : Hd p → q := by (intro h; refine TO.take 3 rfl zK zK zK (PV.load1 rfl zq0 rfl) Wanted.none rfl rfl ?_; refine TO.take 4 rfl zK zK zK (PV.move rfl) Wanted.none rfl rfl ?_; exact h.out)) : q := s ⟨h⟩
theorem yq72 {p q : Prop} (h : p) (s : Hd p → q := by (intro h; refine sv (PV.loadAgg rfl zq0 zA zX) ?_; exact h.out)) : q := s ⟨h⟩
theorem yq73 {p q : Prop} (h : p) (s : Hd p → q := by (intro h; refine TO.take 12 rfl zK zK zK (PV.lss rfl rfl) Wanted.none rfl rfl ?_; refine TO.take 13 rfl zK zK zK (PV.not rfl) Wanted.none rfl rfl ?_; exact h.out)) : q := s ⟨h⟩
theorem yq74 {p q : Prop} (h : p) (s : Hd p → q := by (intro h; refine TQ.pv (PV.nilCheck rfl) (Wanted.guard rfl rfl zA) rfl rfl ?_; refine TQ.pv (PV.fieldAddr rfl) (Wanted.guard rfl rfl zA) rfl rfl ?_; exact h.out)) : q := s ⟨h⟩
theorem yq75 {p q : Prop} (h : p) (s : Hd p → q := by (intro h; refine yq1 ?_; refine yq11 ?_; exact h.out)) : q := s ⟨h⟩
theorem yq76 {p q : Prop} (h : p) (s : Hd p → q := by (intro h; refine yq64 ?_; refine TO.take 2 rfl zK zK zK (PV.gtr rfl rfl) Wanted.none rfl rfl ?_; exact h.out)) : q := s ⟨h⟩
theorem yq77 {p q : Prop} (h : p) (s : Hd p → q := by (intro h; refine yq31 ?_; refine J6 ?_; exact h.out)) : q := s ⟨h⟩
theorem yq78 {p q : Prop} (h : p) (s : Hd p → q := by (intro h; refine T.pv (PV.gtr rfl rfl) (Wanted.guard rfl rfl zA) rfl rfl ?_; refine sv (PV.pickT rfl zA rfl) ?_; exact h.out)) : q := s ⟨h⟩
theorem yq79 {p q : Prop} (h : p) (s : Hd p → q := by (intro h; refine TQ.pv (PV.load1 rfl zq0 zA) Wanted.none rfl rfl ?_; refine I2 ?_; exact h.out)) : q := s ⟨h⟩
theorem yq80 {p q : Prop} (h : p) (s : Hd p → q := by (intro h; refine sv (PV.shrR rfl rfl zA zO) ?_; exact h.out)) : q := s ⟨h⟩
theorem yq81 {p q : Prop} (h : p) (s : Hd p → q := by (intro h; refine TS.ways [13] zK rfl zq20 ⟨⟨_, rfl, ?_⟩, trivial⟩; exact h.out)) : q := s ⟨h⟩
theorem yq82 {p q : Prop} (h : p) (s : Hd p → q := by (intro h; refine TS.ways [8] zK rfl (.inr ⟨zq4, zq19⟩) ⟨⟨_, rfl, ?_⟩, trivial⟩; exact h.out)) : q := s ⟨h⟩
theorem yq83 {p q : Prop} (h : p) (s : Hd p → q := by (intro h; refine TO.take 7 rfl zK zK zK (PV.move rfl) Wanted.none rfl rfl ?_; exact h.out)) : q := s ⟨h⟩
theorem yq84 {p q : Prop} (h : p) (s : Hd p → q := by (intro h; refine TO.take 8 rfl zK zK zK (PV.loadAgg rfl zq0 zA zX) Wanted.none rfl rfl ?_; refine TO.step 9 rfl zK zq4 zq19 ?_; exact h.out)) : q := s ⟨h⟩
theorem yq85 {p q : Prop} (h : p) (s : Hd p → q := by (intro h; refine yq6 ?_; refine J6 ?_; exact h.out)) : q := s ⟨h⟩
theorem yq86 {p q : Prop} (h : p) (s : Hd p → q := by (intro h; refine TO.take 8 rfl zK zK zK (PV.load1 rfl zq0 zA) Wanted.none rfl rfl ?_; refine TO.step 9 rfl zK zq4 zq19 ?_; exact h.out)) : q := s ⟨h⟩
theorem yq87 {p q : Prop} (h : p) (s : Hd p → q := by (intro h; refine yq69 ?_; refine T.pv (PV.sub rfl rfl zO) (Wanted.guard rfl rfl zA) rfl rfl ?_; exact h.out)) : q := s ⟨h⟩
theorem yq88 {p q : Prop} (h : p) (s : Hd p → q := by (intro h; refine TO.take 7 rfl zK zK zK (PV.assign rfl) Wanted.none rfl rfl ?_; refine yq37 ?_; exact h.out)) : q := s ⟨h⟩
theorem yq89 {p q : Prop} (h : p) (s : Hd p → q := by (intro h; refine TS.take 4 rfl zK zK zK zK (PV.fieldAddr rfl) Wanted.none rfl rfl ?_; refine TS.take 5 rfl zK zK zK zK (PV.load1 rfl zq0 rfl) Wanted.none rfl rfl ?_; exact h.out)) : q := s ⟨h⟩
theorem yq90 {p q : Prop} (h : p) (s : Hd p → q := by (intro h; refine sv (PV.pickF rfl zA rfl) ?_; exact h.out)) : q := s ⟨h⟩
theorem yq91 {p q : Prop} (h : p) (s : Hd p → q := by (intro h; refine TS.ways [7] zK rfl zq20 ⟨⟨_, rfl, ?_⟩, trivial⟩; exact h.out)) : q := s ⟨h⟩
theorem yq92 {p q : Prop} (h : p) (s : Hd p → q := by (intro h; refine sv (PV.loadVec rfl zA zq4 zA) ?_; exact h.out)) : q := s ⟨h⟩
theorem yq93 {p q : Prop} (h : p) (s : Hd p → q := by (intro h; refine TS.take 0 rfl zK zK zK zK (PV.move rfl) Wanted.none rfl rfl ?_; exact h.out)) : q := s ⟨h⟩
theorem yq94 {p q : Prop} (h : p) (s : Hd p → q := by (intro h; refine yq77 ?_; refine yq10 ?_; exact h.out)) : q := s ⟨h⟩
theorem yq95 {p q : Prop} (h : p) (s : Hd p → q := by (intro h; refine TO.take 2 rfl zK zK zK (PV.move rfl) Wanted.none rfl rfl ?_; refine yq22 ?_; exact h.out)) : q := s ⟨h⟩
theorem yq96 {p q : Prop} (h : p) (s : Hd p → q := by (intro h; refine TO.take 3 rfl zK zK zK (PV.fieldAddr rfl) Wanted.none rfl rfl ?_; refine TO.take 4 rfl zK zK zK (PV.load1 rfl zq0 rfl) Wanted.none rfl rfl ?_; exact h.out)) : q := s ⟨h⟩
theorem yq97 {p q : Prop} (h : p) (s : Hd p → q := by (intro h; refine J7 ?_; refine yq10 ?_; exact h.out)) : q := s ⟨h⟩
theorem yq98 {p q : Prop} (h : p) (s : Hd p → q := by (intro h; refine yq31 ?_; refine yq97 ?_; exact h.out)) : q := s ⟨h⟩
theorem yq99 {p q : Prop} (h : p) (s : Hd p → q := by (intro h; refine TO.take 5 rfl zK zK zK (PV.move rfl) Wanted.none rfl rfl ?_; refine TO.take 6 rfl zK zK zK (PV.indexAddr rfl rfl zO) Wanted.none rfl rfl ?_; exact h.out)) : q := s ⟨h⟩
theorem yq100 {p q : Prop} (h : p) (s : Hd p → q := by (intro h; refine T.pv (PV.indexAddr rfl rfl zO) (Wanted.guard rfl rfl zA) rfl rfl ?_; refine T.pv (PV.loadSub0 rfl zA) (Wanted.guard rfl rfl zA) rfl rfl ?_; exact h.out)) : q := s ⟨h⟩
theorem yq101 {p q : Prop} (h : p) (s : Hd p → q := by (intro h; refine T.pv (PV.leq rfl rfl) (Wanted.guard rfl rfl zA) rfl rfl ?_; refine sv (PV.pickT rfl zA rfl) ?_; exact h.out)) : q := s ⟨h⟩
theorem yq102 {p q : Prop} (h : p) (s : Hd p → q := by (intro h; refine TO.take 6 rfl zK zK zK (PV.move rfl) Wanted.none rfl rfl ?_; refine TO.take 7 rfl zK zK zK (PV.sliceL rfl rfl zO) Wanted.none rfl rfl ?_; exact h.out)) : q := s ⟨h⟩
theorem yq103 {p q : Prop} (h : p) (s : Hd p → q := by (intro h; refine T.pv (PV.addB rfl rfl zO) (Wanted.guard rfl rfl zA) rfl rfl ?_; refine T.pv (PV.subB rfl rfl zO) (Wanted.guard rfl rfl zA) rfl rfl ?_; exact h.out)) : q := s ⟨h⟩
theorem yq104 {p q : Prop} (h : p) (s : Hd p → q := by (intro h; refine TS.take 4 rfl zK zK zK zK (PV.load1 rfl zq0 rfl) Wanted.none rfl rfl ?_; exact h.out)) : q := s ⟨h⟩
theorem yq105 {p q : Prop} (h : p) (s : Hd p → q := by (intro h; refine sv (PV.shlR rfl rfl zA zO) ?_; exact h.out)) : q := s ⟨h⟩
theorem yq106 {p q : Prop} (h : p) (s : Hd p → q := by (intro h; refine sv (PV.indexStr rfl rfl zO zA) ?_; exact h.out)) : q := s ⟨h⟩
theorem yq107 {p q : Prop} (h : p) (s : Hd p → q := by (intro h; refine yq4 ?_; refine TS.take 20 rfl zK zK zK zK (PV.indexAddr rfl rfl zO) Wanted.none rfl rfl ?_; exact h.out)) : q := s ⟨h⟩
theorem yq108 {p q : Prop} (h : p) (s : Hd p → q := by (intro h; refine yq4 ?_; refine TS.take 22 rfl zK zK zK zK (PV.indexAddr rfl rfl zO) Wanted.none rfl rfl ?_; exact h.out)) : q := s ⟨h⟩
theorem yq109 {p q : Prop} (h : p) (s : Hd p → q := by (intro h; refine sv (PV.bandR rfl rfl zA) ?_; exact h.out)) : q := s ⟨h⟩
theorem yq110 {p q : Prop} (h : p) (s : Hd p → q := by (intro h; refine yq9 ?_; refine J6 ?_; exact h.out)) : q := s ⟨h⟩
theorem yq111 {p q : Prop} (h : p) (s : Hd p → q := by (intro h; refine yq13 ?_; refine TO.take 4 rfl zK zK zK (PV.loadAgg rfl zq0 zA zX) Wanted.none rfl rfl ?_; exact h.out)) : q := s ⟨h⟩
theorem yq112 {p q : Prop} (h : p) (s : Hd p → q := by (intro h; refine yq14 ?_; refine TQ.pv (PV.indexStr rfl rfl zO zA) (Wanted.guard rfl rfl zA) rfl rfl ?_; exact h.out)) : q := s ⟨h⟩
theorem yq113 {p q : Prop} (h : p) (s : Hd p → q := by (intro h; refine yq15 ?_; refine TS.take 7 rfl zK zK zK zK (PV.add rfl rfl zO) Wanted.none rfl rfl ?_; exact h.out)) : q := s ⟨h⟩
theorem yq114 {p q : Prop} (h : p) (s : Hd p → q := by (intro h; refine yq21 ?_; refine TS.take 4 rfl zK zK zK zK (PV.sub rfl rfl zO) Wanted.none rfl rfl ?_; exact h.out)) : q := s ⟨h⟩
theorem yq115 {p q : Prop} (h : p) (s : Hd p → q := by (intro h; refine yq15 ?_; refine TS.take 7 rfl zK zK zK zK (PV.sub rfl rfl zO) Wanted.none rfl rfl ?_; exact h.out)) : q := s ⟨h⟩
theorem yq116 {p q : Prop} (h : p) (s : Hd p → q := by (intro h; refine T.pv (PV.shrR rfl rfl zA zO) (Wanted.guard rfl rfl zA) rfl rfl ?_; exact h.out)) : q := s ⟨h⟩
theorem yq117 {p q : Prop} (h : p) (s : Hd p → q := by (intro h; refine yq4 ?_; refine TS.take 6 rfl zK zK zK zK (PV.build rfl zq12) Wanted.none rfl rfl ?_; exact h.out)) : q := s ⟨h⟩
theorem yq118 {p q : Prop} (h : p) (s : Hd p → q := by (intro h; refine yq13 ?_; refine TO.take 4 rfl zK zK zK (PV.load1 rfl zq0 zA) Wanted.none rfl rfl ?_; exact h.out)) : q := s ⟨h⟩
theorem yq119 {p q : Prop} (h : p) (s : Hd p → q := by (intro h; refine J2 ?_; refine yq70 ?_; exact h.out)) : q := s ⟨h⟩
theorem yq120 {p q : Prop} (h : p) (s : Hd p → q := by (intro h; refine yq1 ?_; refine yq4 ?_; exact h.out)) : q := s ⟨h⟩
end Go.Proofs.YtecogbhbkccblaaGreatDoor
