/- PROVED: TopCodes returns true for every input, panics at none, and its arguments read behind the call as before; where the listed package variables hold what the program lays them with: the tied card (Rows.TopCodesCardSaid). -/
import Derived.Test.YtecogbhbkccblaaGreatDoorRows
import Derived.Test.YtecogbhbkccblaaGreatDoorCards
import Derived.Test.YtecogbhbkccblaaGreatDoorTie
import Derived.LaidMore
import Derived.Lay
import Derived.Stop.Joined
import Derived.Stop.LaidErr
import Derived.Lib.LaidTab
import Derived.SevenTiedAt
import Derived.Lib.LaidU8T
import Derived.WalkKit
import Derived.ProofKit
import Derived.OpenShut
import Derived.ShutString
import Derived.ChangeOld
import Derived.Below
import Derived.Test.YtecogbhbkccblaaGreatDoorHK
import Derived.Test.YtecogbhbkccblaaGreatDoorGL
import Derived.Test.YtecogbhbkccblaaGreatDoorHJ
set_option linter.all false
namespace Go.Proofs.YtecogbhbkccblaaGreatDoor
open Go.ChangeShapes Go.WideShapes Go.ChangeAt Go.RowKit Go.WideMaps Go.WideElems
open Go.ChangeMaps (open_string shut_string)

theorem topCodes_own : ownKnob Tryz.prog.godebug = none := by kernel_rfl
theorem topCodes_walk (w : World) (a0 : Cp) (s0 : CpR (fun b => w.heap[b]?) a0) :
    Calls Tryz.prog 3 #[cpV a0] w fun e w' => e = .returned (.bool true) ∧ Below w.heap.size w w' :=
  (callsIn_wide.1 (Fn.get (codes_law awake_fn a0 (fun b => w.heap[b]?) s0) w (fun _ _ h => h))).mono fun e w' h => by
    obtain ⟨v, H', rfl, _, _, hk, rfl⟩ := h
    exact ⟨rfl, hk.below⟩

set_option maxRecDepth 100000 in
theorem topCodes_lifted (os : Os) (started : os.Started) (H : Type) (enc : TypeId × Value → H) :
    ReturnsInHanded {} Tryz.checked os 3 .any (fun w args => (Rows.topCodesSpec.pre enc Tryz.prog Tryz.f3 [] false w args ∧ laidMetH Tryz.prog Rows.topCodesRow.laid w) ∧ sizedMet enc Tryz.prog Tryz.f3 (OpenSpec.ofChange Rows.topCodesSpec) false w args) (Rows.topCodesSpec.post enc Tryz.prog Tryz.f3 false true false false) := by
  refine returnsInHanded_of_change_and (C := Tryz.checked) (X := fun w _ => laidMetH Tryz.prog Rows.topCodesRow.laid w) (fun _ _ _ hh h => h.of_heap hh) topCodes_own started zK Tryz.func3
    (ChangeSpec.witness_shaped (enc := enc) (C := Tryz.checked) (os := os) (X := fun w _ => laidMetH Tryz.prog Rows.topCodesRow.laid w) false (World.laidAll Tryz.prog os Rows.topCodesRow.laid) #[.agg #[.slice none 0 0, .slice none 0 0, .slice none 0 0, .slice none 0 0, .slice none 0 0, .slice none 0 0, .slice none 0 0]] 8 (World.laidAll_os _ _ _) (World.shaped_of_ZipB zK zK) zK zK zK
      (by rw [MakeChecks.laidMetH_plain _ _ _ zK]; exact laidMet_laidAll _ zK zK)) ?_
  intro W base args ds gs before hval0 hW _ _ hL _
  have hval : ∀ (j : Nat) t v, Tryz.f3.params[j]? = some t → args[j]? = some v → Value.okWide Tryz.prog W .any base t v := hval0
  have hW' := hW
  obtain ⟨p, q, hA0, hV, rfl, hfz, hnd⟩ := hW
  have hA : DataW.TrodAll enc Tryz.prog W 0 (fun _ => true) true Tryz.f3.params.toList args.toList ds p := hA0
  have hK : DataW.TrodAll enc Tryz.prog W 0 (fun _ => true) true Tryz.f3.params.toList args.toList ds p := hA0
  rw [Tryz.params3] at hA hval
  obtain ⟨v0, vs0, d0, ds0, p0, q0, hargs, rfl, rfl, h0, r0⟩ := trodAll_cons hA
  obtain ⟨rfl, rfl, rfl⟩ := trodAll_nil r0
  obtain rfl : args = #[v0] := by cases args; simp_all
  obtain ⟨rfl, rfl⟩ := trodVars_none hV
  obtain ⟨a0, rfl, s0⟩ := open_corpus (hval 0 30 v0 rfl rfl) h0
  refine (topCodes_walk W a0 s0).mono fun e W' ⟨he, bel⟩ => ?_
  subst he
  exact ⟨_, rfl, _, _, _, [], _, [], hW', trodAll_mk1 (shut_bool Tryz.underlying4 _), args_behind zK zK zK bel zK hK, rfl, bel.frame _, fun h => by cases h⟩

theorem topCodes_over : Rows.topCodesRow.holds Tryz.pinned (OpenSpec.ofChange Rows.topCodesSpec) :=
  OpenClaim.holds_of_wide 3 Tryz.f3 rfl rfl rfl rfl rfl rfl rfl ⟨rfl, rfl, rfl, rfl, rfl⟩ rfl rfl rfl rfl rfl topCodes_name Tryz.func3 topCodes_facts
    topCodes_inst (by unfold Func.isWrapper; first | (rw [if_pos (by decide +kernel)]; kernel_rfl) | (rw [if_neg (by decide +kernel)]; exact ⟨rfl, rfl⟩))
    (fun os started H enc _ => topCodes_lifted os started H enc)

/-- THE STATEMENT: the tied card. -/
theorem topCodes_proved : Rows.TopCodesCardSaid :=
  Claim7.holds_tied_plain_at .later [] [.data, .pinned] true _ true
    topCodes_over (fun _ h => by cases h) topCodes_wf (fun _ h => by cases h) topCodes_row_tie rfl ⟨rfl, rfl⟩ topCodes_main rfl
    (fun f fn hf hfn => by
      obtain rfl : f = 3 := Option.some.inj (topCodes_name.symm.trans hf) |>.symm
      obtain rfl : fn = Tryz.f3 := (Option.some.inj (Tryz.func3.symm.trans hfn)).symm
      exact ⟨topCodes_looks, fun j t ht => by
        rw [Tryz.params3] at ht
        have hm : t ∈ [30] := by simpa using Array.mem_of_getElem? ht
        have hall : ([30].all fun u => !Tryz.prog.wantsStandIn u) = true := by kernel_rfl
        exact (show Tryz.prog.wantsStandIn t = false by simpa using List.all_eq_true.1 hall t hm)⟩)
    topCodes_goes
#print axioms topCodes_proved
end Go.Proofs.YtecogbhbkccblaaGreatDoor
