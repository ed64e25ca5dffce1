/- PROVED: LinesSort returns true for every input, panics at none, and its arguments read behind the call as before (Rows.LinesSortSaid). -/
import Derived.Test.YtlklcjpmfjmenaaGreatRows
import Derived.WalkKit
import Derived.ProofKit
import Derived.OpenShut
import Derived.ShutString
import Derived.ChangeOld
import Derived.Below
import Derived.Test.YtlklcjpmfjmenaaGreatFKV
namespace Go.Proofs.YtlklcjpmfjmenaaGreat
open Go.ChangeShapes Go.WideShapes Go.ChangeAt Go.RowKit
open Go.ChangeMaps (open_string shut_string)

theorem linesSort_own : ownKnob Tryz.prog.godebug = none := by kernel_rfl
theorem linesSort_walk (w : World) (a0 : List Int) (u0 : Value) (s0 : SlR (fun b => w.heap[b]?) 1 u0 a0.length (a0.flatMap fun a => [.int .i64 a])) (n0 : a0.length ≤ maxLen) (w0 : ∀ s ∈ a0, inI64 s) (a1 : List Int) (u1 : Value) (s1 : SlR (fun b => w.heap[b]?) 1 u1 a1.length (a1.flatMap fun a => [.int .i64 a])) (n1 : a1.length ≤ maxLen) (w1 : ∀ s ∈ a1, inI64 s) :
    Calls Tryz.prog 3 #[u0, u1] w fun e w' => e = .returned (.bool true) ∧ Below w.heap.size w w' :=
  (callsIn_wide.1 (Fn.get (sort_law a0 a1 u0 u1 (fun b => w.heap[b]?) s0 (by have := n0; unfold maxLen at this; omega) w0 s1 (by have := n1; unfold maxLen at this; omega) w1) w (fun _ _ h => h))).mono fun e w' h => by
    obtain ⟨v, H', rfl, _, _, hk, rfl⟩ := h
    exact ⟨rfl, hk.below⟩

set_option maxRecDepth 100000 in
theorem linesSort_lifted (os : Os) (started : os.Started) (H : Type) (enc : TypeId × Value → H) :
    ReturnsInHanded {} Tryz.checked os 3 .any (Rows.linesSortSpec.pre6 enc Tryz.prog Tryz.f3 Rows.linesSortRow.domain false) (Rows.linesSortSpec.post enc Tryz.prog Tryz.f3 false true false false) := by
  refine returnsInHanded_of_change (C := Tryz.checked) linesSort_own started (by kernel_rfl) Tryz.func3
    (ChangeSpec.witness6 (enc := enc) (C := Tryz.checked) false ⟨#[], #[.slice none 0 0, .slice none 0 0], []⟩ 8 (by kernel_rfl) (by kernel_rfl) (by kernel_rfl) (by kernel_rfl)) ?_
  intro W base args ds gs before hval0 hW hcnd _
  have hval : ∀ (j : Nat) t v, Tryz.f3.params[j]? = some t → args[j]? = some v → Value.okWide Tryz.prog W .any base t v := hval0
  have hW' := hW
  obtain ⟨p, q, hA0, hV, rfl, hfz, hnd⟩ := hW
  have hA : DataW.TrodAll enc Tryz.prog W 0 (fun _ => true) true Tryz.f3.params.toList args.toList ds p := hA0
  have hK : DataW.TrodAll enc Tryz.prog W 0 (fun _ => true) true Tryz.f3.params.toList args.toList ds p := hA0
  rw [Tryz.params3] at hA hval
  obtain ⟨v0, vs0, d0, ds0, p0, q0, hargs, rfl, rfl, h0, r0⟩ := trodAll_cons hA
  obtain ⟨v1, vs1, d1, ds1, p1, q1, rfl, rfl, rfl, h1, r1⟩ := trodAll_cons r0
  obtain ⟨rfl, rfl, rfl⟩ := trodAll_nil r1
  obtain rfl : args = #[v0, v1] := by cases args; simp_all
  obtain ⟨rfl, rfl⟩ := trodVars_none hV
  obtain ⟨a0, s0, n0, w0⟩ := open_intsL Tryz.underlying22 Tryz.underlying3 (by kernel_rfl) (hval 0 22 v0 rfl rfl) h0
  obtain ⟨a1, s1, n1, w1⟩ := open_intsL Tryz.underlying22 Tryz.underlying3 (by kernel_rfl) (hval 1 22 v1 rfl rfl) h1
  refine (linesSort_walk W a0 v0 s0 n0 w0 a1 v1 s1 n1 w1).mono fun e W' ⟨he, bel⟩ => ?_
  subst he
  exact ⟨_, rfl, _, _, _, [], _, [], hW', trodAll_mk1 (shut_bool Tryz.underlying4 _), args_behind (by kernel_rfl) (by kernel_rfl) (by kernel_rfl) bel (by kernel_rfl) hK, rfl, bel.frame _, fun h => by cases h⟩

theorem linesSort_over : Rows.linesSortRow.holds Tryz.pinned (OpenSpec.ofChange Rows.linesSortSpec) :=
  OpenClaim.holds_of_wide 3 Tryz.f3 rfl rfl rfl rfl rfl rfl rfl ⟨rfl, rfl, rfl, rfl, rfl⟩ rfl rfl rfl rfl rfl (by kernel_rfl) Tryz.func3 (by kernel_rfl)
    (of_decide_eq_true (by kernel_rfl)) (by unfold Func.isWrapper; first | (rw [if_pos (by decide +kernel)]; kernel_rfl) | (rw [if_neg (by decide +kernel)]; exact ⟨rfl, rfl⟩))
    (fun os started H enc _ => linesSort_lifted os started H enc)

/-- THE STATEMENT. -/
theorem linesSort_proved : Rows.LinesSortSaid := linesSort_over
#print axioms linesSort_proved
end Go.Proofs.YtlklcjpmfjmenaaGreat
