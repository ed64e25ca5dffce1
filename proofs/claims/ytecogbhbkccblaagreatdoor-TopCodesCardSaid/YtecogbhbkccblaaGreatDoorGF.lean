/- a condition on a feature: valid; which tokens hold it.
   a condition on a feature: which tokens hold it; Select. -/
import Derived.Test.YtecogbhbkccblaaGreatDoorGE
set_option linter.all false
namespace Go.Proofs.YtecogbhbkccblaaGreatDoor
open Go.RowKit


end Go.Proofs.YtecogbhbkccblaaGreatDoor
namespace Go.Proofs.YtecogbhbkccblaaGreatDoor
open Go.RowKit


/-- the value of attribute a of token i -/
def valT (c : Cp) (a i : Nat) : ByteArray := ((c.tk[i]?).bind fun t => t.ss[a]?).getD ⟨#[]⟩
theorem valT_at {c : Cp} (hg : cpGood c) {a i : Nat} (hi : i < c.tk.length) (ha : a < c.att.length) : ∃ t, c.tk[i]? = some t ∧ t.ss[a]? = some (valT c a i) := by
  have h1 : c.tk[i]? = some c.tk[i] := List.getElem?_eq_getElem hi
  have h2 := hg.t c.tk[i] (List.getElem_mem hi)
  have h3 : c.tk[i].ss[a]? = some (c.tk[i].ss[a]'zO) := List.getElem?_eq_getElem zO
  refine ⟨_, h1, ?_⟩
  rw [h3]
  unfold valT
  rw [h1]
  show some _ = some ((c.tk[i].ss[a]?).getD _)
  rw [h3]; rfl
structure SelS where
  i : Nat
  v : Value
  lv : List (Nat × Obj)
end Go.Proofs.YtecogbhbkccblaaGreatDoor
