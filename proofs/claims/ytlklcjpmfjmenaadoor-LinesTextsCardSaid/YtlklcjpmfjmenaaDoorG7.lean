/- made corpora: Validate comes to an end, whatever it says.
   made corpora: Validate comes to an end: regions, constituents, heads. -/
import Derived.Test.YtlklcjpmfjmenaaDoorG6
namespace Go.Proofs.YtlklcjpmfjmenaaDoor
open Go.RowKit


end Go.Proofs.YtlklcjpmfjmenaaDoor
namespace Go.Proofs.YtlklcjpmfjmenaaDoor
open Go.RowKit


/-- The rest once, for all that some slots may have come to. -/
theorem T.cutG {P : Program} {X : Cx} {e : Env} {l : List (Nat × Obj)} {H : Hp} {D : List Deferred} {k : List It} {a : It} {γ : Type} (ek : Env) (C : γ → Prop) (ch : γ → Env) (K : ∀ g, C g → T P X (ch g ++ ek) l H D k)
    (h : (∀ g e' l', C g → Env.Sub (ch g ++ ek) e' → Sel l' l → T P X e' l' H D k) → T P X e l H D (a :: k)) : T P X e l H D (a :: k) :=
  h fun g _ _ hc he hl => T.sel hl (T.weak he (List.Sublist.refl _) (K g hc))
end Go.Proofs.YtlklcjpmfjmenaaDoor
