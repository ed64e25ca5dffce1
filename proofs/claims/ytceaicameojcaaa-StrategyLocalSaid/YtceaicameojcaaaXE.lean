/- Own layer: equality of structs of plain cells. -/
import Derived.Test.YtceaicameojcaaaXL
import Derived.Laws.StructEq
namespace Go.Proofs.Ytceaicameojcaaa
open Go.RowKit

inductive Leaf where
  | int (k : IntKind)
  | bool
  | str
def Leaf.ty : Leaf → TypeDesc
  | .int k => .int k
  | .bool => .bool
  | .str => .string
def fitsB : List Leaf → List Value → Bool
  | [], [] => true
  | .int k :: ks, .int k' _ :: vs => decide (k = k') && fitsB ks vs
  | .bool :: ks, .bool _ :: vs => fitsB ks vs
  | .str :: ks, .string _ :: vs => fitsB ks vs
  | _, _ => false
def cellEq : Value → Value → Bool
  | .int _ a, .int _ b => decide (a = b)
  | .bool a, .bool b => decide (a = b)
  | .string a, .string b => decide (a = b)
  | _, _ => false
def eqCells : List Value → List Value → Bool
  | x :: xs, y :: ys => cellEq x y && eqCells xs ys
  | _, _ => true
inductive FlatF (P : Program) : Nat → List Field → List Leaf → Prop
  | nil {i} : FlatF P i [] []
  | cons {i f fs k ks} (ho : f.offset = i) (hn : f.name ≠ "_") (h1 : ∀ w, (isAgg f.type).run P w = .ok false w) (hk : P.underlying f.type = some k.ty) (h : FlatF P (i + 1) fs ks) : FlatF P i (f :: fs) (k :: ks)
class FlatEq (P : Program) (t : TypeId) (ks : outParam (List Leaf)) : Prop where
  u : P.underlying t = some (.struct (P.fieldsOf t))
  fs : FlatF P 0 (P.fieldsOf t).toList ks
  held : P.stoodInHeld t = false
  guard : P.eqGuardType P.depth t = false

theorem run_part_leaf {P : Program} {t off : Nat} {w : World} {xs : List Value} {v : Value} (h1 : ∀ w, (isAgg t).run P w = .ok false w) (hv : xs[off]? = some v) : (part t xs.toArray off).run P w = .ok v w := by
  simp [part, h1, hv]
theorem run_eqFields {P : Program} {d : Nat} {w : World} {xs ys : List Value} {i : Nat} {fs : List Field} {ks : List Leaf} (hf : FlatF P i fs ks) : fitsB ks (xs.drop i) = true → fitsB ks (ys.drop i) = true →
    (Op.eqFields (d + 1) xs.toArray ys.toArray fs).run P w = .ok (eqCells (xs.drop i) (ys.drop i)) w := by
  induction hf with
  | nil =>
    intro hx hy
    rename_i i
    have : xs.drop i = [] := by
      cases h : xs.drop i with
      | nil => rfl
      | cons a l => rw [h] at hx; simp [fitsB] at hx
    rw [this]
    simp [Op.eqFields, eqCells]
  | @cons i f fs k ks ho hn h1 hk h ih =>
    intro hx hy
    cases hxd : xs.drop i with
    | nil => rw [hxd] at hx; cases k <;> simp [fitsB] at hx
    | cons a xs' =>
      cases hyd : ys.drop i with
      | nil => rw [hyd] at hy; cases k <;> simp [fitsB] at hy
      | cons b ys' =>
        have hxa : xs[i]? = some a := by have := congrArg (fun l => l[0]?) hxd; simpa using this
        have hyb : ys[i]? = some b := by have := congrArg (fun l => l[0]?) hyd; simpa using this
        have hxs : xs.drop (i + 1) = xs' := by rw [← List.drop_drop, hxd]; rfl
        have hys : ys.drop (i + 1) = ys' := by rw [← List.drop_drop, hyd]; rfl
        rw [hxd] at hx
        rw [hyd] at hy
        rw [hxs, hys] at ih
        have fin : ∀ r : Bool, (Op.equalIn (d + 1) f.type a b).run P w = .ok r w → cellEq a b = r → fitsB ks xs' = true → fitsB ks ys' = true → (Op.eqFields (d + 1) xs.toArray ys.toArray (f :: fs)).run P w = .ok (eqCells (a :: xs') (b :: ys')) w := by
          intro r hr hc h3 h4
          subst ho
          simp only [Op.eqFields, if_pos hn, Sem.run_bind, run_part_leaf h1 hxa, run_part_leaf h1 hyb, Result.andThen_ok, hr, eqCells, hc]
          cases r
          · simp
          · simp [ih h3 h4]
        cases k with
        | int k =>
          cases a <;> simp [fitsB] at hx
          cases b <;> simp [fitsB] at hy
          obtain ⟨rfl, hx⟩ := hx
          obtain ⟨rfl, hy⟩ := hy
          exact fin _ (run_equalIn_int w d f.type _ _ _ _ hk) (by simp [cellEq]; rfl) hx hy
        | bool =>
          cases a <;> simp [fitsB] at hx
          cases b <;> simp [fitsB] at hy
          exact fin _ (run_equalIn_bool' w d f.type _ _ hk) (by simp [cellEq]; rfl) hx hy
        | str =>
          cases a <;> simp [fitsB] at hx
          cases b <;> simp [fitsB] at hy
          exact fin _ (run_equalIn_string w d f.type _ _ hk) (by simp only [cellEq, ← ba_eq]) hx hy

section
variable {P : Program} {e : Env} {l : List (Nat × Obj)} {H : Hp} {dst : Option Tmp} {ty : TypeId} {pos : String} {after : Array Edge} {gd : Option (Nat × Bool)}
theorem PV.aeql {t t' : TypeId} {ks : List Leaf} [ht : FlatEq P t ks] {x y : Operand} {xs ys : List Value} (hx : evE e x = some (.agg xs.toArray)) (hy : evE e y = some (.agg ys.toArray)) (h1 : fitsB ks xs = true) (h2 : fitsB ks ys = true) :
    PV P e l H ⟨dst, .binOp .eql t x y t', ty, pos, after, gd⟩ (.bool (eqCells xs ys)) := PV.mk fun X D a w ha hw => by
  have := run_eqFields (P := P) (d := 9998) (w := w) ht.fs (xs := xs) (ys := ys) (by simpa using h1) (by simpa using h2)
  simp only [List.drop_zero] at this
  simp [execOp, ha.eval hx, ha.eval hy, run_eqGuard_agg w .eql t x y xs.toArray ys.toArray ht.guard, run_eql_struct, run_equalIn_struct w 9999 t xs.toArray ys.toArray ht.u ht.held, this]
theorem PV.aneq {t t' : TypeId} {ks : List Leaf} [ht : FlatEq P t ks] {x y : Operand} {xs ys : List Value} (hx : evE e x = some (.agg xs.toArray)) (hy : evE e y = some (.agg ys.toArray)) (h1 : fitsB ks xs = true) (h2 : fitsB ks ys = true) :
    PV P e l H ⟨dst, .binOp .neq t x y t', ty, pos, after, gd⟩ (.bool (!eqCells xs ys)) := PV.mk fun X D a w ha hw => by
  have := run_eqFields (P := P) (d := 9998) (w := w) ht.fs (xs := xs) (ys := ys) (by simpa using h1) (by simpa using h2)
  simp only [List.drop_zero] at this
  simp [execOp, ha.eval hx, ha.eval hy, run_eqGuard_agg w .neq t x y xs.toArray ys.toArray ht.guard, run_neq_struct, run_equalIn_struct w 9999 t xs.toArray ys.toArray ht.u ht.held, this]
end
end Go.Proofs.Ytceaicameojcaaa
