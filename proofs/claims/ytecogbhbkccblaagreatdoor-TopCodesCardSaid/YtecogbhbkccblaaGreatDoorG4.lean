/- regions: comparing integers and spans.
   regions: lists of spans: Compact.
   regions: lists of integers, matches: comparing.
   regions: the reference's Insert.
   regions: lists of spans, of matches: Same.
   regions: numbers of a tape. -/
import Derived.Test.YtecogbhbkccblaaGreatDoorG3
set_option linter.all false
namespace Go.Proofs.YtecogbhbkccblaaGreatDoor
open Go.RowKit



def intsV (l : List Int) : List Value := l.flatMap fun a => [.int .i64 a]
theorem T.freezeLit {P : Program} {X : Cx} {e : Env} {l : List (Nat × Obj)} {H : Hp} {D : List Deferred} {k : List It} {b : Nat} {o : Obj} (h : ∀ H1, H.le H1 → H1 b = some o → T P X e l H1 D k) : T P X e ((b, o) :: l) H D k :=
  T.mk fun a w ha hw => (h (H.put b o) (Hp.le_put (hw.own _ List.mem_cons_self).2.1) Hp.put_same).get a w ha hw.freeze
end Go.Proofs.YtecogbhbkccblaaGreatDoor
namespace Go.Proofs.YtecogbhbkccblaaGreatDoor
open Go.RowKit



end Go.Proofs.YtecogbhbkccblaaGreatDoor
namespace Go.Proofs.YtecogbhbkccblaaGreatDoor
open Go.RowKit


abbrev InL (H : Hp) (v : Value) (l : List Int) : Prop := SlR H 1 v l.length (intsV l)
end Go.Proofs.YtecogbhbkccblaaGreatDoor
namespace Go.Proofs.YtecogbhbkccblaaGreatDoor
open Go.RowKit



end Go.Proofs.YtecogbhbkccblaaGreatDoor
namespace Go.Proofs.YtecogbhbkccblaaGreatDoor
open Go.RowKit



end Go.Proofs.YtecogbhbkccblaaGreatDoor
namespace Go.Proofs.YtecogbhbkccblaaGreatDoor
open Go.RowKit


theorem PV.nilCheck {P : Program} {e : Env} {l : List (Nat × Obj)} {H : Hp} {dst : Option Tmp} {ty : TypeId} {pos : String} {after : Array Edge} {gd : Option (Nat × Bool)} {x : Operand} {ad : Addr} (hx : evE e x = some (.pointer (some ad))) : PV P e l H ⟨dst, .nilCheck x, ty, pos, after, gd⟩ (.pointer (some ad)) := PV.mk fun X D a w ha hw => by
  simp [execOp, ha.eval hx]
/-- a tape: at most 120 numbers that are only read, and a place -/
structure Tp where
  v : Value
  xs : List Int
  at_ : Nat
def Tp.ok (H : Hp) (t : Tp) : Prop := InL H t.v t.xs ∧ t.xs.length ≤ 120 ∧ t.at_ ≤ t.xs.length ∧ ∀ x ∈ t.xs, -9223372036854775808 ≤ x ∧ x ≤ 9223372036854775807
end Go.Proofs.YtecogbhbkccblaaGreatDoor
