/- made corpora: Validate comes to an end, whatever it says.
   made corpora: Validate comes to an end: regions, constituents, heads. -/
import Derived.Test.YtecogbhbkccblaaGreatDoorG6
set_option linter.all false
namespace Go.Proofs.YtecogbhbkccblaaGreatDoor
open Go.RowKit


def textRec (p : Int) : Nat → List Rg → Int
  | _, [] => -1
  | i, t :: l => if t.b ≤ p ∧ p < t.e then (i : Int) else textRec p (i + 1) l
def textOf (l : List Rg) (p : Int) : Int := textRec p 0 l
theorem textRec_drop {l : List Rg} {i : Nat} {t : Rg} {p : Int} (h : l[i]? = some t) : textRec p i (l.drop i) = if t.b ≤ p ∧ p < t.e then (i : Int) else textRec p (i + 1) (l.drop (i + 1)) := by
  have := List.getElem?_eq_some_iff.1 h
  rw [List.drop_eq_getElem_cons this.1, this.2, textRec]
end Go.Proofs.YtecogbhbkccblaaGreatDoor
namespace Go.Proofs.YtecogbhbkccblaaGreatDoor
open Go.RowKit


/-- The rest once, for all that some slots may have come to. -/
theorem T.cutG {P : Program} {X : Cx} {e : Env} {l : List (Nat × Obj)} {H : Hp} {D : List Deferred} {k : List It} {a : It} {γ : Type} (ek : Env) (C : γ → Prop) (ch : γ → Env) (K : ∀ g, C g → T P X (ch g ++ ek) l H D k)
    (h : (∀ g e' l', C g → Env.Sub (ch g ++ ek) e' → Sel l' l → T P X e' l' H D k) → T P X e l H D (a :: k)) : T P X e l H D (a :: k) :=
  h fun g _ _ hc he hl => T.sel hl (T.weak he (List.Sublist.refl _) (K g hc))
theorem T.cut2G {P : Program} {X : Cx} {e : Env} {l : List (Nat × Obj)} {H : Hp} {D : List Deferred} {k : List It} {a b : It} {γ : Type} (ek : Env) (C : γ → Prop) (ch : γ → Env) (lg : γ → List (Nat × Obj)) (K : ∀ g, C g → T P X (ch g ++ ek) (lg g) H D k)
    (h : (∀ g e' l', C g → Env.Sub (ch g ++ ek) e' → Sel l' (lg g) → T P X e' l' H D k) → T P X e l H D (a :: b :: k)) : T P X e l H D (a :: b :: k) :=
  h fun g _ _ hc he hl => T.sel hl (T.weak he (List.Sublist.refl _) (K g hc))
end Go.Proofs.YtecogbhbkccblaaGreatDoor
