/- PROVED: LinesOrdered returns true for every input, panics at none, and its arguments read behind the call as before (Rows.LinesOrderedSaid). -/
import Derived.Test.YtlklcjpmfjmenaaRows
import Derived.WalkKit
import Derived.ProofKit
import Derived.OpenShut
import Derived.ShutString
import Derived.ChangeOld
import Derived.Below
import Derived.Test.YtlklcjpmfjmenaaFKP
namespace Go.Proofs.Ytlklcjpmfjmenaa
open Go.ChangeShapes Go.WideShapes Go.ChangeAt Go.RowKit
open Go.ChangeMaps (open_string shut_string)

theorem linesOrdered_own : ownKnob Try.prog.godebug = none := by kernel_rfl
theorem linesOrdered_walk (w : World) (a0 : List Int) (u0 : Value) (s0 : SlR (fun b => w.heap[b]?) 1 u0 a0.length (a0.flatMap fun a => [.int .i64 a])) (n0 : a0.length ≤ maxLen) (w0 : ∀ s ∈ a0, inI64 s) (a1 : List Int) (u1 : Value) (s1 : SlR (fun b => w.heap[b]?) 1 u1 a1.length (a1.flatMap fun a => [.int .i64 a])) (n1 : a1.length ≤ maxLen) (w1 : ∀ s ∈ a1, inI64 s) :
    Calls Try.prog 5 #[u0, u1] w fun e w' => e = .returned (.bool true) ∧ Below w.heap.size w w' :=
  (callsIn_wide.1 (Fn.get (ordered_law a0 a1 u0 u1 (fun b => w.heap[b]?) s0 (by have := n0; unfold maxLen at this; omega) w0 s1 (by have := n1; unfold maxLen at this; omega) w1) w (fun _ _ h => h))).mono fun e w' h => by
    obtain ⟨v, H', rfl, _, _, hk, rfl⟩ := h
    exact ⟨rfl, hk.below⟩

set_option maxRecDepth 100000 in
theorem linesOrdered_lifted (os : Os) (started : os.Started) (H : Type) (enc : TypeId × Value → H) :
    ReturnsInHanded {} Try.checked os 5 .any (Rows.linesOrderedSpec.pre6 enc Try.prog Try.f5 Rows.linesOrderedRow.domain false) (Rows.linesOrderedSpec.post enc Try.prog Try.f5 false true false false) := by
  refine returnsInHanded_of_change (C := Try.checked) linesOrdered_own started (by kernel_rfl) Try.func5
    (ChangeSpec.witness6 (enc := enc) (C := Try.checked) false ⟨#[], #[.slice none 0 0, .slice none 0 0], []⟩ 8 (by kernel_rfl) (by kernel_rfl) (by kernel_rfl) (by kernel_rfl)) ?_
  intro W base args ds gs before hval0 hW hcnd _
  have hval : ∀ (j : Nat) t v, Try.f5.params[j]? = some t → args[j]? = some v → Value.okWide Try.prog W .any base t v := hval0
  have hW' := hW
  obtain ⟨p, q, hA0, hV, rfl, hfz, hnd⟩ := hW
  have hA : DataW.TrodAll enc Try.prog W 0 (fun _ => true) true Try.f5.params.toList args.toList ds p := hA0
  have hK : DataW.TrodAll enc Try.prog W 0 (fun _ => true) true Try.f5.params.toList args.toList ds p := hA0
  rw [Try.params5] at hA hval
  obtain ⟨v0, vs0, d0, ds0, p0, q0, hargs, rfl, rfl, h0, r0⟩ := trodAll_cons hA
  obtain ⟨v1, vs1, d1, ds1, p1, q1, rfl, rfl, rfl, h1, r1⟩ := trodAll_cons r0
  obtain ⟨rfl, rfl, rfl⟩ := trodAll_nil r1
  obtain rfl : args = #[v0, v1] := by cases args; simp_all
  obtain ⟨rfl, rfl⟩ := trodVars_none hV
  obtain ⟨a0, s0, n0, w0⟩ := open_intsL Try.underlying22 Try.underlying3 (by kernel_rfl) (hval 0 22 v0 rfl rfl) h0
  obtain ⟨a1, s1, n1, w1⟩ := open_intsL Try.underlying22 Try.underlying3 (by kernel_rfl) (hval 1 22 v1 rfl rfl) h1
  refine (linesOrdered_walk W a0 v0 s0 n0 w0 a1 v1 s1 n1 w1).mono fun e W' ⟨he, bel⟩ => ?_
  subst he
  exact ⟨_, rfl, _, _, _, [], _, [], hW', trodAll_mk1 (shut_bool Try.underlying4 _), args_behind (by kernel_rfl) (by kernel_rfl) (by kernel_rfl) bel (by kernel_rfl) hK, rfl, bel.frame _, fun h => by cases h⟩

theorem linesOrdered_over : Rows.linesOrderedRow.holds Try.pinned (OpenSpec.ofChange Rows.linesOrderedSpec) :=
  OpenClaim.holds_of_wide 5 Try.f5 rfl rfl rfl rfl rfl rfl rfl ⟨rfl, rfl, rfl, rfl, rfl⟩ rfl rfl rfl rfl rfl (by kernel_rfl) Try.func5 (by kernel_rfl)
    (of_decide_eq_true (by kernel_rfl)) (by unfold Func.isWrapper; first | (rw [if_pos (by decide +kernel)]; kernel_rfl) | (rw [if_neg (by decide +kernel)]; exact ⟨rfl, rfl⟩))
    (fun os started H enc _ => linesOrdered_lifted os started H enc)

/-- THE STATEMENT. -/
theorem linesOrdered_proved : Rows.LinesOrderedSaid := linesOrdered_over
#print axioms linesOrdered_proved
end Go.Proofs.Ytlklcjpmfjmenaa
