/- lines: comparing rows of a sorting. -/
import Derived.Test.YtlklcjpmfjmenaaGreatDoorGK
namespace Go.Proofs.YtlklcjpmfjmenaaGreatDoor
open Go.RowKit

/-- a match with its place and the values of the keys -/
structure Kr where
  m : Mt
  at_ : Int
  kv : Value
  ks : List ByteArray
def KrOk (H : Hp) (n : Nat) (r : Kr) : Prop := LabOk H r.m ∧ StL H r.kv r.ks ∧ r.ks.length = n
theorem KrOk.mono {H H' : Hp} {n : Nat} {r : Kr} (h : KrOk H n r) (hl : H.le H') : KrOk H' n r := ⟨h.1.mono hl, h.2.1.mono hl, h.2.2⟩
end Go.Proofs.YtlklcjpmfjmenaaGreatDoor
