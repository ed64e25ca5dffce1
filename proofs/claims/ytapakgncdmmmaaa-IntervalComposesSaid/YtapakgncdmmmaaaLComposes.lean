/- PROVED: IntervalComposes returns true for every input, panics at none, and its arguments read behind the call as before (Rows.IntervalComposesSaid). -/
import Derived.Test.YtapakgncdmmmaaaRows
import Derived.WalkKit
import Derived.ProofKit
import Derived.OpenShut
import Derived.ShutString
import Derived.ChangeOld
import Derived.Below
import Derived.Test.YtapakgncdmmmaaaI12
import Derived.Test.YtapakgncdmmmaaaXW
namespace Go.Proofs.Ytapakgncdmmmaaa
open Go.ChangeShapes Go.WideShapes Go.ChangeAt Go.RowKit
open Go.ChangeMaps (open_string shut_string)

theorem intervalComposes_own : ownKnob Try.prog.godebug = none := by kernel_rfl
theorem intervalComposes_walk (w : World) (a0 : Int × Int) (w0 : inI64 a0.1 ∧ inI64 a0.2) (a1 : Int × Int) (w1 : inI64 a1.1 ∧ inI64 a1.2) (a2 : Int × Int) (w2 : inI64 a2.1 ∧ inI64 a2.2) :
    Calls Try.prog 4 #[(.agg #[.int .i64 a0.1, .int .i64 a0.2]), (.agg #[.int .i64 a1.1, .int .i64 a1.2]), (.agg #[.int .i64 a2.1, .int .i64 a2.2])] w fun e w' => e = .returned (.bool true) ∧ Below w.heap.size w w' :=
  (callsIn_wide.1 (Fn.get (composes_fn a0 a1 a2 (fun b => w.heap[b]?)) w (fun _ _ h => h))).mono fun e w' h => by
    obtain ⟨v, H', rfl, _, _, hk, rfl⟩ := h
    exact ⟨rfl, hk.below⟩

set_option maxRecDepth 100000 in
theorem intervalComposes_lifted (os : Os) (started : os.Started) (H : Type) (enc : TypeId × Value → H) :
    ReturnsInHanded {} Try.checked os 4 .any (Rows.intervalComposesSpec.pre6 enc Try.prog Try.f4 Rows.intervalComposesRow.domain false) (Rows.intervalComposesSpec.post enc Try.prog Try.f4 false true false false) := by
  refine returnsInHanded_of_change (C := Try.checked) intervalComposes_own started (by kernel_rfl) Try.func4
    (ChangeSpec.witness6 (enc := enc) (C := Try.checked) false ⟨#[], #[.agg #[.int .i64 0, .int .i64 0], .agg #[.int .i64 0, .int .i64 0], .agg #[.int .i64 0, .int .i64 0]], []⟩ 8 (by kernel_rfl) (by kernel_rfl) (by kernel_rfl) (by kernel_rfl)) ?_
  intro W base args ds gs before hval0 hW hcnd _
  have hval : ∀ (j : Nat) t v, Try.f4.params[j]? = some t → args[j]? = some v → Value.okWide Try.prog W .any base t v := hval0
  have hW' := hW
  obtain ⟨p, q, hA0, hV, rfl, hfz, hnd⟩ := hW
  have hA : DataW.TrodAll enc Try.prog W 0 (fun _ => true) true Try.f4.params.toList args.toList ds p := hA0
  have hK : DataW.TrodAll enc Try.prog W 0 (fun _ => true) true Try.f4.params.toList args.toList ds p := hA0
  rw [Try.params4] at hA hval
  obtain ⟨v0, vs0, d0, ds0, p0, q0, hargs, rfl, rfl, h0, r0⟩ := trodAll_cons hA
  obtain ⟨v1, vs1, d1, ds1, p1, q1, rfl, rfl, rfl, h1, r1⟩ := trodAll_cons r0
  obtain ⟨v2, vs2, d2, ds2, p2, q2, rfl, rfl, rfl, h2, r2⟩ := trodAll_cons r1
  obtain ⟨rfl, rfl, rfl⟩ := trodAll_nil r2
  obtain rfl : args = #[v0, v1, v2] := by cases args; simp_all
  obtain ⟨rfl, rfl⟩ := trodVars_none hV
  obtain ⟨a0, rfl, w0⟩ := open_pair Try.underlying23 (by kernel_rfl) (by kernel_rfl) Try.underlying3 Try.underlying3 (hval 0 23 v0 rfl rfl) h0
  obtain ⟨a1, rfl, w1⟩ := open_pair Try.underlying23 (by kernel_rfl) (by kernel_rfl) Try.underlying3 Try.underlying3 (hval 1 23 v1 rfl rfl) h1
  obtain ⟨a2, rfl, w2⟩ := open_pair Try.underlying23 (by kernel_rfl) (by kernel_rfl) Try.underlying3 Try.underlying3 (hval 2 23 v2 rfl rfl) h2
  refine (intervalComposes_walk W a0 w0 a1 w1 a2 w2).mono fun e W' ⟨he, bel⟩ => ?_
  subst he
  exact ⟨_, rfl, _, _, _, [], _, [], hW', trodAll_mk1 (shut_bool Try.underlying4 _), args_behind (by kernel_rfl) (by kernel_rfl) (by kernel_rfl) bel (by kernel_rfl) hK, rfl, bel.frame _, fun h => by cases h⟩

theorem intervalComposes_over : Rows.intervalComposesRow.holds Try.pinned (OpenSpec.ofChange Rows.intervalComposesSpec) :=
  OpenClaim.holds_of_wide 4 Try.f4 rfl rfl rfl rfl rfl rfl rfl ⟨rfl, rfl, rfl, rfl, rfl⟩ rfl rfl rfl rfl rfl (by kernel_rfl) Try.func4 (by kernel_rfl)
    (of_decide_eq_true (by kernel_rfl)) (by unfold Func.isWrapper; first | (rw [if_pos (by decide +kernel)]; kernel_rfl) | (rw [if_neg (by decide +kernel)]; exact ⟨rfl, rfl⟩))
    (fun os started H enc _ => intervalComposes_lifted os started H enc)

/-- THE STATEMENT. -/
theorem intervalComposes_proved : Rows.IntervalComposesSaid := intervalComposes_over
#print axioms intervalComposes_proved
end Go.Proofs.Ytapakgncdmmmaaa
