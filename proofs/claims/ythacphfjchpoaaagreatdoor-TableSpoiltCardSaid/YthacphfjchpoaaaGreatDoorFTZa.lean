/- table: the statement Raw. (what it leans on). -/
import Derived.Test.YthacphfjchpoaaaGreatDoorGN
namespace Go.Proofs.YthacphfjchpoaaaGreatDoor
open Go.RowKit

theorem T.cutHq {P : Program} {X : Cx} {e : Env} {l : List (Nat × Obj)} {H : Hp} {D : List Deferred} {k : List It} {a : It} {γ : Type} (ek : Env) (C : γ → Prop) (ch : γ → Env) (lg : γ → List (Nat × Obj)) (Hg : γ → Hp) (K : ∀ g, C g → T P X (ch g ++ ek) (lg g) (Hg g) D k)
    (h : (∀ g e' l' H', C g → Env.Sub (ch g ++ ek) e' → Sel l' (lg g) → Hg g = H' → T P X e' l' H' D k) → T P X e l H D (a :: k)) : T P X e l H D (a :: k) :=
  h fun g _ _ _ hc he hl hH => hH ▸ T.sel hl (T.weak he (List.Sublist.refl _) (K g hc))
theorem row_blk {α : Type} {enc : α → List Value} {sz : Nat} (hlen : ∀ x, (enc x).length = sz) {H : Hp} {b : Nat} {cs : List Value} {t : TypeId} {fz : Nat × Nat} {l : List α} (h : H b = some (.cells cs.toArray t fz)) (hx : cs = l.flatMap enc) : SlR H sz (.slice (some ⟨b, 0, none⟩) l.length l.length) l.length (l.flatMap enc) := by
  subst hx
  have hl : (l.flatMap enc).length = l.length * sz := flat_len hlen l
  exact ⟨hl, .inr ⟨b, 0, _, _, _, _, rfl, h, by rw [List.drop_zero, ← hl, List.take_length], Nat.le_refl _⟩⟩
theorem mt_blk {H : Hp} {m : Mt} {b : Nat} {t : TypeId} {fz : Nat × Nat} {al : Option Addr} {cl : Nat} (hmv : m.v = .slice al m.ls.length cl) (h : H b = some (.cells #[.int .i64 m.b, .int .i64 m.e, .slice al m.ls.length cl] t fz)) (hm : LabOk H m) : MtL H (.slice (some ⟨b, 0, none⟩) 1 1) [m] := by
  refine ⟨row_blk encM_len (l := [m]) (cs := [.int .i64 m.b, .int .i64 m.e, .slice al m.ls.length cl]) h ?_, fun x hx => ?_⟩
  · simp [encM, hmv]
  · rw [List.mem_singleton] at hx; subst hx; exact hm
structure RwQ where
  H : Hp
  v : Value
  A : List Rw
end Go.Proofs.YthacphfjchpoaaaGreatDoor
