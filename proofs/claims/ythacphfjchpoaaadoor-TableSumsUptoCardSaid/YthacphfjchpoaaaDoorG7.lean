/- made corpora: Validate comes to an end, whatever it says.
   made corpora: Validate comes to an end: regions, constituents, heads. -/
import Derived.Test.YthacphfjchpoaaaDoorG6
namespace Go.Proofs.YthacphfjchpoaaaDoor
open Go.RowKit


end Go.Proofs.YthacphfjchpoaaaDoor
namespace Go.Proofs.YthacphfjchpoaaaDoor
open Go.RowKit


theorem T.cut2G {P : Program} {X : Cx} {e : Env} {l : List (Nat × Obj)} {H : Hp} {D : List Deferred} {k : List It} {a b : It} {γ : Type} (ek : Env) (C : γ → Prop) (ch : γ → Env) (lg : γ → List (Nat × Obj)) (K : ∀ g, C g → T P X (ch g ++ ek) (lg g) H D k)
    (h : (∀ g e' l', C g → Env.Sub (ch g ++ ek) e' → Sel l' (lg g) → T P X e' l' H D k) → T P X e l H D (a :: b :: k)) : T P X e l H D (a :: b :: k) :=
  h fun g _ _ hc he hl => T.sel hl (T.weak he (List.Sublist.refl _) (K g hc))
end Go.Proofs.YthacphfjchpoaaaDoor
