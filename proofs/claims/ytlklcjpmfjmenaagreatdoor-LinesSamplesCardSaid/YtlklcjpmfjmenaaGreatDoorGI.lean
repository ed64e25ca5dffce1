/- lines: codepoint: Fold, Reverse.
   lines: the reference of codepoint: Fold, Reverse. -/
import Derived.Test.YtlklcjpmfjmenaaGreatDoorG6
namespace Go.Proofs.YtlklcjpmfjmenaaGreatDoor
open Go.RowKit

theorem Src.bytes {P : Program} {l : List (Nat × Obj)} {H : Hp} {bs : List UInt8} : Src P l H 1 (.string ⟨bs.toArray⟩) bs.length (bytesV bs) := by
  have := Src.str (P := P) (l := l) (H := H) (s := ⟨bs.toArray⟩)
  simpa [ByteArray.size] using this
end Go.Proofs.YtlklcjpmfjmenaaGreatDoor
namespace Go.Proofs.YtlklcjpmfjmenaaGreatDoor
open Go.RowKit

end Go.Proofs.YtlklcjpmfjmenaaGreatDoor
