/- lines: Sort: the program. -/
import Derived.Test.YtlklcjpmfjmenaaGreatDoorFKL
import Derived.Test.YtlklcjpmfjmenaaGreatDoorFKD
namespace Go.Proofs.YtlklcjpmfjmenaaGreatDoor
open Go.RowKit

structure SuG where
  j : Nat
  v : Value
  lv : List (Nat × Obj)
theorem MtV.snoc' {v : Value} {lv : List (Nat × Obj)} {l : List Mt} {m : Mt} (h : Vec 24 3 v lv (l.length + 1) (l.flatMap encM ++ encM m)) : RowV 24 encM 3 v lv (l ++ [m]) := by
  have e : (l ++ [m]).length = l.length + 1 := by simp
  show Vec _ _ _ _ _ _
  rw [e, List.flatMap_append]
  simpa using h
end Go.Proofs.YtlklcjpmfjmenaaGreatDoor
