/- made corpora: heads.
   made corpora: what holds of them; one behind another one. -/
import Derived.Test.YthacphfjchpoaaaDoorFM14
namespace Go.Proofs.YthacphfjchpoaaaDoor
open Go.RowKit


abbrev InV (v : Value) (lv : List (Nat × Obj)) (n : Nat) (l : List Int) : Prop := Vec 3 1 v lv n (l.flatMap encI)
abbrev StV (v : Value) (lv : List (Nat × Obj)) (n : Nat) (l : List ByteArray) : Prop := Vec 9 1 v lv n (l.flatMap encT)
theorem InV.set {v : Value} {lv : List (Nat × Obj)} {n o : Nat} {x : Int} {l : List Int} (h : Vec 3 1 v lv n ((l.flatMap encI).set o (.int .i64 x))) : InV v lv n (l.set o x) := by
  rw [show (l.flatMap encI).set o (.int .i64 x) = (l.set o x).flatMap encI from flat_set (f := fun a => Value.int .i64 a) l _ _] at h; exact h
theorem StV.set {v : Value} {lv : List (Nat × Obj)} {n o : Nat} {x : ByteArray} {l : List ByteArray} (h : Vec 9 1 v lv n ((l.flatMap encT).set o (.string x))) : StV v lv n (l.set o x) := by
  rw [show (l.flatMap encT).set o (.string x) = (l.set o x).flatMap encT from flat_set (f := fun a => Value.string a) l _ _] at h; exact h
end Go.Proofs.YthacphfjchpoaaaDoor
namespace Go.Proofs.YthacphfjchpoaaaDoor
open Go.RowKit


/-- two regions of one type do not cross -/
def apart (x y : Rg) : Prop := x.ty = y.ty → x.e ≤ y.b ∨ y.e ≤ x.b ∨ (x.b ≤ y.b ∧ y.e ≤ x.e) ∨ (y.b ≤ x.b ∧ x.e ≤ y.e)
/-- not more than m documents bear -/
structure CpB (m : Nat) (c : Cp) : Prop where
  tk : c.tk.length ≤ 8 * m
  tx : c.tx.length ≤ m
  rg : c.rg.length ≤ 4 * m
  nd : c.nd.length ≤ 6 * m
  hd : c.hd.length + 24 ≤ 32 * m
  rl : c.rl.length + 24 ≤ 32 * m
theorem CpB.mono {m m' : Nat} {c : Cp} (h : CpB m c) (hm : m ≤ m') : CpB m' c := by
  obtain ⟨a1, a2, a3, a4, a5, a6⟩ := h
  exact ⟨by omega, by omega, by omega, by omega, by omega, by omega⟩

end Go.Proofs.YthacphfjchpoaaaDoor
