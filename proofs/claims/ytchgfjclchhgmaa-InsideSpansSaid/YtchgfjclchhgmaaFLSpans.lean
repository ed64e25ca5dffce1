/- PROVED: InsideSpans returns true for every input, panics at none, and its arguments read behind the call as before (Rows.InsideSpansSaid). -/
import Derived.Test.YtchgfjclchhgmaaRows
import Derived.WalkKit
import Derived.ProofKit
import Derived.OpenShut
import Derived.ShutString
import Derived.ChangeOld
import Derived.Below
import Derived.Test.YtchgfjclchhgmaaFRK
namespace Go.Proofs.Ytchgfjclchhgmaa
open Go.ChangeShapes Go.WideShapes Go.ChangeAt Go.RowKit
open Go.ChangeMaps (open_string shut_string)

theorem insideSpans_own : ownKnob Try.prog.godebug = none := by kernel_rfl
theorem insideSpans_walk (w : World) (a0 : List Int) (u0 : Value) (s0 : SlR (fun b => w.heap[b]?) 1 u0 a0.length (a0.flatMap fun a => [.int .i64 a])) (n0 : a0.length ≤ maxLen) (w0 : ∀ s ∈ a0, inI64 s) :
    Calls Try.prog 10 #[u0] w fun e w' => e = .returned (.bool true) ∧ Below w.heap.size w w' :=
  (callsIn_wide.1 (Fn.get (spansLaw_fn a0 u0 (fun b => w.heap[b]?) s0 (by have := n0; unfold maxLen at this; omega) w0) w (fun _ _ h => h))).mono fun e w' h => by
    obtain ⟨v, H', rfl, _, _, hk, rfl⟩ := h
    exact ⟨rfl, hk.below⟩

set_option maxRecDepth 100000 in
theorem insideSpans_lifted (os : Os) (started : os.Started) (H : Type) (enc : TypeId × Value → H) :
    ReturnsInHanded {} Try.checked os 10 .any (Rows.insideSpansSpec.pre6 enc Try.prog Try.f10 Rows.insideSpansRow.domain false) (Rows.insideSpansSpec.post enc Try.prog Try.f10 false true false false) := by
  refine returnsInHanded_of_change (C := Try.checked) insideSpans_own started (by kernel_rfl) Try.func10
    (ChangeSpec.witness6 (enc := enc) (C := Try.checked) false ⟨#[], #[.slice none 0 0], []⟩ 8 (by kernel_rfl) (by kernel_rfl) (by kernel_rfl) (by kernel_rfl)) ?_
  intro W base args ds gs before hval0 hW hcnd _
  have hval : ∀ (j : Nat) t v, Try.f10.params[j]? = some t → args[j]? = some v → Value.okWide Try.prog W .any base t v := hval0
  have hW' := hW
  obtain ⟨p, q, hA0, hV, rfl, hfz, hnd⟩ := hW
  have hA : DataW.TrodAll enc Try.prog W 0 (fun _ => true) true Try.f10.params.toList args.toList ds p := hA0
  have hK : DataW.TrodAll enc Try.prog W 0 (fun _ => true) true Try.f10.params.toList args.toList ds p := hA0
  rw [Try.params10] at hA hval
  obtain ⟨v0, vs0, d0, ds0, p0, q0, hargs, rfl, rfl, h0, r0⟩ := trodAll_cons hA
  obtain ⟨rfl, rfl, rfl⟩ := trodAll_nil r0
  obtain rfl : args = #[v0] := by cases args; simp_all
  obtain ⟨rfl, rfl⟩ := trodVars_none hV
  obtain ⟨a0, s0, n0, w0⟩ := open_intsL Try.underlying22 Try.underlying3 (by kernel_rfl) (hval 0 22 v0 rfl rfl) h0
  refine (insideSpans_walk W a0 v0 s0 n0 w0).mono fun e W' ⟨he, bel⟩ => ?_
  subst he
  exact ⟨_, rfl, _, _, _, [], _, [], hW', trodAll_mk1 (shut_bool Try.underlying4 _), args_behind (by kernel_rfl) (by kernel_rfl) (by kernel_rfl) bel (by kernel_rfl) hK, rfl, bel.frame _, fun h => by cases h⟩

theorem insideSpans_over : Rows.insideSpansRow.holds Try.pinned (OpenSpec.ofChange Rows.insideSpansSpec) :=
  OpenClaim.holds_of_wide 10 Try.f10 rfl rfl rfl rfl rfl rfl rfl ⟨rfl, rfl, rfl, rfl, rfl⟩ rfl rfl rfl rfl rfl (by kernel_rfl) Try.func10 (by kernel_rfl)
    (of_decide_eq_true (by kernel_rfl)) (by unfold Func.isWrapper; first | (rw [if_pos (by decide +kernel)]; kernel_rfl) | (rw [if_neg (by decide +kernel)]; exact ⟨rfl, rfl⟩))
    (fun os started H enc _ => insideSpans_lifted os started H enc)

/-- THE STATEMENT. -/
theorem insideSpans_proved : Rows.InsideSpansSaid := insideSpans_over
#print axioms insideSpans_proved
end Go.Proofs.Ytchgfjclchhgmaa
