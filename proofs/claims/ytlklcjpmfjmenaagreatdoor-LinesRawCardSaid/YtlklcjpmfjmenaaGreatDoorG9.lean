/- regions: filters; both Validates; how a region is related to a span.
   regions: the regions of a type, one by one; Holds, Last.
   regions: Holds, Last.
   regions: Last, and the reference's Holds and Last. -/
import Derived.Test.YtlklcjpmfjmenaaGreatDoorGA
namespace Go.Proofs.YtlklcjpmfjmenaaGreatDoor
open Go.RowKit

structure Fl where
  op : Int
  nt : Bool
  rg : ByteArray
def flErr (f : Fl) : Int := if f.op < 1 ∨ 3 < f.op then 1 else if validName f.rg then 0 else 4
end Go.Proofs.YtlklcjpmfjmenaaGreatDoor
namespace Go.Proofs.YtlklcjpmfjmenaaGreatDoor
open Go.RowKit

end Go.Proofs.YtlklcjpmfjmenaaGreatDoor
namespace Go.Proofs.YtlklcjpmfjmenaaGreatDoor
open Go.RowKit

/-- a filter and a span of which nothing is asked -/
def offB (n : Nat) (f : Fl) (s : Sp) : Prop := flErr f ≠ 0 ∨ s.1 < 0 ∨ s.2 ≤ s.1 ∨ (n : Int) < s.2
instance (n : Nat) (f : Fl) (s : Sp) : Decidable (offB n f s) := by unfold offB; infer_instance
end Go.Proofs.YtlklcjpmfjmenaaGreatDoor
namespace Go.Proofs.YtlklcjpmfjmenaaGreatDoor
open Go.RowKit

end Go.Proofs.YtlklcjpmfjmenaaGreatDoor
