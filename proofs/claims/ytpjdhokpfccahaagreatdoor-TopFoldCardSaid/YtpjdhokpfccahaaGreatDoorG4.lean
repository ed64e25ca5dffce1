/- regions: comparing integers and spans.
   regions: lists of spans: Compact.
   regions: lists of integers, matches: comparing.
   regions: the reference's Insert.
   regions: lists of spans, of matches: Same.
   regions: numbers of a tape. -/
import Derived.Test.YtpjdhokpfccahaaGreatDoorG3
namespace Go.Proofs.YtpjdhokpfccahaaGreatDoor
open Go.RowKit



def encS (s : Sp) : List Value := [.int .i64 s.1, .int .i64 s.2]
theorem encS_len (s : Sp) : (encS s).length = 2 := rfl
def intsV (l : List Int) : List Value := l.flatMap fun a => [.int .i64 a]
end Go.Proofs.YtpjdhokpfccahaaGreatDoor
namespace Go.Proofs.YtpjdhokpfccahaaGreatDoor
open Go.RowKit



theorem flatS_len (l : List Sp) : (l.flatMap encS).length = l.length * 2 := flat_len encS_len l
abbrev SpL (H : Hp) (v : Value) (l : List Sp) : Prop := SlR H 2 v l.length (l.flatMap encS)
end Go.Proofs.YtpjdhokpfccahaaGreatDoor
namespace Go.Proofs.YtpjdhokpfccahaaGreatDoor
open Go.RowKit


abbrev InL (H : Hp) (v : Value) (l : List Int) : Prop := SlR H 1 v l.length (intsV l)
def LabOk (H : Hp) (m : Mt) : Prop := InL H m.v m.ls ∧ m.ls.length ≤ 17592186044000
end Go.Proofs.YtpjdhokpfccahaaGreatDoor
namespace Go.Proofs.YtpjdhokpfccahaaGreatDoor
open Go.RowKit



theorem takeS (l : List Sp) (k : Nat) (h : k ≤ l.length) : (l.flatMap encS).take (k * 2) = (l.take k).flatMap encS := by
  have : l.flatMap encS = (l.take k).flatMap encS ++ (l.drop k).flatMap encS := by rw [← List.flatMap_append, List.take_append_drop]
  rw [this, List.take_left' (by rw [flatS_len, List.length_take]; congr 1; omega)]
theorem SpL.pre {H : Hp} {ad : Option Addr} {cap : Nat} {l : List Sp} (h : SlR H 2 (.slice ad l.length cap) l.length (l.flatMap encS)) {k : Nat} (hk : k ≤ l.length) : SlR H 2 (.slice ad ((k : Nat) : Int).toNat cap) k ((l.take k).flatMap encS) := by
  have := h.pre hk
  rw [takeS l k hk] at this
  rw [Int.toNat_natCast]; exact this
end Go.Proofs.YtpjdhokpfccahaaGreatDoor
namespace Go.Proofs.YtpjdhokpfccahaaGreatDoor
open Go.RowKit



/-! ### lists of matches -/
def encM (m : Mt) : List Value := [.int .i64 m.b, .int .i64 m.e, m.v]
theorem encM_len (m : Mt) : (encM m).length = 3 := rfl
def MtL (H : Hp) (v : Value) (l : List Mt) : Prop := SlR H 3 v l.length (l.flatMap encM) ∧ ∀ m ∈ l, LabOk H m
theorem LabOk.mono {H H' : Hp} {m : Mt} (h : LabOk H m) (hl : H.le H') : LabOk H' m := ⟨h.1.mono hl, h.2⟩
theorem MtL.mono {H H' : Hp} {v : Value} {l : List Mt} (h : MtL H v l) (hl : H.le H') : MtL H' v l := ⟨h.1.mono hl, fun m hm => (h.2 m hm).mono hl⟩
end Go.Proofs.YtpjdhokpfccahaaGreatDoor
namespace Go.Proofs.YtpjdhokpfccahaaGreatDoor
open Go.RowKit


theorem flatM_len (l : List Mt) : (l.flatMap encM).length = l.length * 3 := flat_len encM_len l
theorem takeM (l : List Mt) (k : Nat) (h : k ≤ l.length) : (l.flatMap encM).take (k * 3) = (l.take k).flatMap encM := by
  have : l.flatMap encM = (l.take k).flatMap encM ++ (l.drop k).flatMap encM := by rw [← List.flatMap_append, List.take_append_drop]
  rw [this, List.take_left' (by rw [flatM_len, List.length_take]; congr 1; omega)]
theorem MtS.pre {H : Hp} {ad : Option Addr} {cap : Nat} {l : List Mt} (h : SlR H 3 (.slice ad l.length cap) l.length (l.flatMap encM)) {k : Nat} (hk : k ≤ l.length) : SlR H 3 (.slice ad ((k : Nat) : Int).toNat cap) k ((l.take k).flatMap encM) := by
  have := h.pre hk
  rw [takeM l k hk] at this
  rw [Int.toNat_natCast]; exact this
theorem T.sub {P : Program} {X : Cx} {e : Env} {l l' : List (Nat × Obj)} {H : Hp} {D : List Deferred} {k : List It} (hl : List.Sublist l' l) (h : T P X e l' H D k) : T P X e l H D k := T.mk fun a w ha hw => h.get a w ha (hw.sub hl)
theorem PV.nilCheck {P : Program} {e : Env} {l : List (Nat × Obj)} {H : Hp} {dst : Option Tmp} {ty : TypeId} {pos : String} {after : Array Edge} {gd : Option (Nat × Bool)} {x : Operand} {ad : Addr} (hx : evE e x = some (.pointer (some ad))) : PV P e l H ⟨dst, .nilCheck x, ty, pos, after, gd⟩ (.pointer (some ad)) := PV.mk fun X D a w ha hw => by
  simp [execOp, ha.eval hx]
/-- a tape: at most 120 numbers that are only read, and a place -/
structure Tp where
  v : Value
  xs : List Int
  at_ : Nat
def Tp.ok (H : Hp) (t : Tp) : Prop := InL H t.v t.xs ∧ t.xs.length ≤ 120 ∧ t.at_ ≤ t.xs.length ∧ ∀ x ∈ t.xs, -9223372036854775808 ≤ x ∧ x ≤ 9223372036854775807
theorem Tp.ok.mono {H H' : Hp} {t : Tp} (h : t.ok H) (hl : H.le H') : t.ok H' := ⟨h.1.mono hl, h.2⟩
end Go.Proofs.YtpjdhokpfccahaaGreatDoor
