/- PROVED: InsideSplits returns true for every input, panics at none, and its arguments read behind the call as before (Rows.InsideSplitsSaid). -/
import Derived.Test.YtchgfjclchhgmaaRows
import Derived.WalkKit
import Derived.ProofKit
import Derived.OpenShut
import Derived.ShutString
import Derived.ChangeOld
import Derived.Below
import Derived.Test.YtchgfjclchhgmaaFRG
namespace Go.Proofs.Ytchgfjclchhgmaa
open Go.ChangeShapes Go.WideShapes Go.ChangeAt Go.RowKit
open Go.ChangeMaps (open_string shut_string)

theorem insideSplits_own : ownKnob Try.prog.godebug = none := by kernel_rfl
theorem insideSplits_walk (w : World) (a0 : List Int) (u0 : Value) (s0 : SlR (fun b => w.heap[b]?) 1 u0 a0.length (a0.flatMap fun a => [.int .i64 a])) (n0 : a0.length ≤ maxLen) (w0 : ∀ s ∈ a0, inI64 s) :
    Calls Try.prog 8 #[u0] w fun e w' => e = .returned (.bool true) ∧ Below w.heap.size w w' :=
  (callsIn_wide.1 (Fn.get (splits_fn a0 u0 (fun b => w.heap[b]?) s0 (by have := n0; unfold maxLen at this; omega) w0) w (fun _ _ h => h))).mono fun e w' h => by
    obtain ⟨v, H', rfl, _, _, hk, rfl⟩ := h
    exact ⟨rfl, hk.below⟩

set_option maxRecDepth 100000 in
theorem insideSplits_lifted (os : Os) (started : os.Started) (H : Type) (enc : TypeId × Value → H) :
    ReturnsInHanded {} Try.checked os 8 .any (Rows.insideSplitsSpec.pre6 enc Try.prog Try.f8 Rows.insideSplitsRow.domain false) (Rows.insideSplitsSpec.post enc Try.prog Try.f8 false true false false) := by
  refine returnsInHanded_of_change (C := Try.checked) insideSplits_own started (by kernel_rfl) Try.func8
    (ChangeSpec.witness6 (enc := enc) (C := Try.checked) false ⟨#[], #[.slice none 0 0], []⟩ 8 (by kernel_rfl) (by kernel_rfl) (by kernel_rfl) (by kernel_rfl)) ?_
  intro W base args ds gs before hval0 hW hcnd _
  have hval : ∀ (j : Nat) t v, Try.f8.params[j]? = some t → args[j]? = some v → Value.okWide Try.prog W .any base t v := hval0
  have hW' := hW
  obtain ⟨p, q, hA0, hV, rfl, hfz, hnd⟩ := hW
  have hA : DataW.TrodAll enc Try.prog W 0 (fun _ => true) true Try.f8.params.toList args.toList ds p := hA0
  have hK : DataW.TrodAll enc Try.prog W 0 (fun _ => true) true Try.f8.params.toList args.toList ds p := hA0
  rw [Try.params8] at hA hval
  obtain ⟨v0, vs0, d0, ds0, p0, q0, hargs, rfl, rfl, h0, r0⟩ := trodAll_cons hA
  obtain ⟨rfl, rfl, rfl⟩ := trodAll_nil r0
  obtain rfl : args = #[v0] := by cases args; simp_all
  obtain ⟨rfl, rfl⟩ := trodVars_none hV
  obtain ⟨a0, s0, n0, w0⟩ := open_intsL Try.underlying22 Try.underlying3 (by kernel_rfl) (hval 0 22 v0 rfl rfl) h0
  refine (insideSplits_walk W a0 v0 s0 n0 w0).mono fun e W' ⟨he, bel⟩ => ?_
  subst he
  exact ⟨_, rfl, _, _, _, [], _, [], hW', trodAll_mk1 (shut_bool Try.underlying4 _), args_behind (by kernel_rfl) (by kernel_rfl) (by kernel_rfl) bel (by kernel_rfl) hK, rfl, bel.frame _, fun h => by cases h⟩

theorem insideSplits_over : Rows.insideSplitsRow.holds Try.pinned (OpenSpec.ofChange Rows.insideSplitsSpec) :=
  OpenClaim.holds_of_wide 8 Try.f8 rfl rfl rfl rfl rfl rfl rfl ⟨rfl, rfl, rfl, rfl, rfl⟩ rfl rfl rfl rfl rfl (by kernel_rfl) Try.func8 (by kernel_rfl)
    (of_decide_eq_true (by kernel_rfl)) (by unfold Func.isWrapper; first | (rw [if_pos (by decide +kernel)]; kernel_rfl) | (rw [if_neg (by decide +kernel)]; exact ⟨rfl, rfl⟩))
    (fun os started H enc _ => insideSplits_lifted os started H enc)

/-- THE STATEMENT. -/
theorem insideSplits_proved : Rows.InsideSplitsSaid := insideSplits_over
#print axioms insideSplits_proved
end Go.Proofs.Ytchgfjclchhgmaa
