/- PROVED: TableSpoilt returns true for every input, panics at none, and its arguments read behind the call as before; where the listed package variables hold what the program lays them with: the tied card (Rows.TableSpoiltCardSaid). -/
import Derived.Test.YthacphfjchpoaaaGreatDoorRows
import Derived.Test.YthacphfjchpoaaaGreatDoorCards
import Derived.Test.YthacphfjchpoaaaGreatDoorTie
import Derived.LaidMore
import Derived.Stop.Joined
import Derived.Stop.LaidErr
import Derived.Lib.LaidTab
import Derived.SevenTiedAt
import Derived.WalkKit
import Derived.ProofKit
import Derived.OpenShut
import Derived.ShutString
import Derived.ChangeOld
import Derived.Below
import Derived.Test.YthacphfjchpoaaaGreatDoorGS
namespace Go.Proofs.YthacphfjchpoaaaGreatDoor
open Go.ChangeShapes Go.WideShapes Go.ChangeAt Go.RowKit Go.WideMaps Go.WideElems
open Go.ChangeMaps (open_string shut_string)

theorem tableSpoilt_own : ownKnob Tryz.prog.godebug = none := by kernel_rfl
theorem tableSpoilt_walk (w : World) (hP : PowT (fun b => w.heap[b]?)) (a0 : List Int) (u0 : Value) (s0 : SlR (fun b => w.heap[b]?) 1 u0 a0.length (a0.flatMap fun a => [.int .i64 a])) (n0 : a0.length ≤ maxLen) (w0 : ∀ s ∈ a0, inI64 s) (a1 : List Int) (u1 : Value) (s1 : SlR (fun b => w.heap[b]?) 1 u1 a1.length (a1.flatMap fun a => [.int .i64 a])) (n1 : a1.length ≤ maxLen) (w1 : ∀ s ∈ a1, inI64 s) (a2 : Int) (w2 : (Lit.int .i64 a2).wf = true) :
    Calls Tryz.prog 6 #[u0, u1, .int .i64 a2] w fun e w' => e = .returned (.bool true) ∧ Below w.heap.size w w' :=
  (callsIn_wide.1 (Fn.get (spoilt_law a0 a1 a2 u0 u1 (fun b => w.heap[b]?) hP s0 (by have := n0; unfold maxLen at this; omega) w0 s1 (by have := n1; unfold maxLen at this; omega) w1 (i64_rangeW w2)) w (fun _ _ h => h))).mono fun e w' h => by
    obtain ⟨v, H', rfl, _, _, hk, rfl⟩ := h
    exact ⟨rfl, hk.below⟩

/-- the door's own heap meets the condition -/
theorem tableSpoilt_door (os : Os) (args : Array Value) : laidMetH Tryz.prog Rows.tableSpoiltRow.laid ((World.doorLaid Tryz.prog 400 os).forCall (fun _ _ => 0) ⟨#[], args, []⟩).memory :=
  laidMetH_of_parts3 (fuel := 8) (laidMet_of_run' 8 (by kernel_rfl) (by kernel_rfl)) (by kernel_rfl) (by kernel_rfl)
set_option maxRecDepth 100000 in
/-- the table of powers, off the condition -/
theorem tableSpoilt_pow {W : World} (h : laidMetH Tryz.prog Rows.tableSpoiltRow.laid W) : PowT (fun b => W.heap[b]?) := by
  rw [MakeChecks.laidMetH_plain _ _ _ (by kernel_rfl)] at h
  have h3 : laidMet Tryz.prog ((_, Lib.tabData .u64 Lib.pow10Tab) :: []) W := laidMet.tail (laidMet.tail h)
  have ht := Lib.tabIs_of_head (g := 0) (by kernel_rfl) (by kernel_rfl) Tryz.underlying205 Tryz.underlying166 (by kernel_rfl) (by kernel_rfl) h3
  unfold Lib.TabIs World.var? at ht
  obtain ⟨g, hg, ht⟩ := Option.bind_eq_some_iff.1 ht
  obtain rfl : g = 0 := Option.some.inj (hg.symm.trans (by kernel_rfl))
  split at ht
  · rename_i cs t fz hc
    obtain rfl := Option.some.inj ht
    exact ⟨t, fz, hc⟩
  · cases ht

set_option maxRecDepth 100000 in
theorem tableSpoilt_lifted (os : Os) (started : os.Started) (H : Type) (enc : TypeId × Value → H) :
    ReturnsInHanded {} Tryz.checked os 6 .any (fun w args => (Rows.tableSpoiltSpec.pre enc Tryz.prog Tryz.f6 [] false w args ∧ laidMetH Tryz.prog Rows.tableSpoiltRow.laid w) ∧ sizedMet enc Tryz.prog Tryz.f6 (OpenSpec.ofChange Rows.tableSpoiltSpec) false w args) (Rows.tableSpoiltSpec.post enc Tryz.prog Tryz.f6 false true false false) := by
  refine returnsInHanded_of_change_and (C := Tryz.checked) (X := fun w _ => laidMetH Tryz.prog Rows.tableSpoiltRow.laid w) (fun _ _ _ hh h => h.of_heap hh) tableSpoilt_own started (by kernel_rfl) Tryz.func6
    (ChangeSpec.witness_shaped (enc := enc) (C := Tryz.checked) (os := os) (X := fun w _ => laidMetH Tryz.prog Rows.tableSpoiltRow.laid w) false (World.doorLaid Tryz.prog 400 os) #[.slice none 0 0, .slice none 0 0, .int .i64 0] 8 rfl (World.shaped_of_RefB (by kernel_rfl) (by kernel_rfl)) (by kernel_rfl) (by kernel_rfl) (by kernel_rfl) (tableSpoilt_door os _)) ?_
  intro W base args ds gs before hval0 hW _ _ hL _
  have hP := tableSpoilt_pow hL
  have hval : ∀ (j : Nat) t v, Tryz.f6.params[j]? = some t → args[j]? = some v → Value.okWide Tryz.prog W .any base t v := hval0
  have hW' := hW
  obtain ⟨p, q, hA0, hV, rfl, hfz, hnd⟩ := hW
  have hA : DataW.TrodAll enc Tryz.prog W 0 (fun _ => true) true Tryz.f6.params.toList args.toList ds p := hA0
  have hK : DataW.TrodAll enc Tryz.prog W 0 (fun _ => true) true Tryz.f6.params.toList args.toList ds p := hA0
  rw [Tryz.params6] at hA hval
  obtain ⟨v0, vs0, d0, ds0, p0, q0, hargs, rfl, rfl, h0, r0⟩ := trodAll_cons hA
  obtain ⟨v1, vs1, d1, ds1, p1, q1, rfl, rfl, rfl, h1, r1⟩ := trodAll_cons r0
  obtain ⟨v2, vs2, d2, ds2, p2, q2, rfl, rfl, rfl, h2, r2⟩ := trodAll_cons r1
  obtain ⟨rfl, rfl, rfl⟩ := trodAll_nil r2
  obtain rfl : args = #[v0, v1, v2] := by cases args; simp_all
  obtain ⟨rfl, rfl⟩ := trodVars_none hV
  obtain ⟨a0, s0, n0, w0⟩ := open_intsL Tryz.underlying22 Tryz.underlying3 (by kernel_rfl) (hval 0 22 v0 rfl rfl) h0
  obtain ⟨a1, s1, n1, w1⟩ := open_intsL Tryz.underlying22 Tryz.underlying3 (by kernel_rfl) (hval 1 22 v1 rfl rfl) h1
  obtain ⟨a2, rfl, rfl, rfl, w2⟩ := open_int Tryz.underlying3 (hval 2 3 v2 rfl rfl) h2
  refine (tableSpoilt_walk W hP a0 v0 s0 n0 w0 a1 v1 s1 n1 w1 a2 w2).mono fun e W' ⟨he, bel⟩ => ?_
  subst he
  exact ⟨_, rfl, _, _, _, [], _, [], hW', trodAll_mk1 (shut_bool Tryz.underlying4 _), args_behind (by kernel_rfl) (by kernel_rfl) (by kernel_rfl) bel (by kernel_rfl) hK, rfl, bel.frame _, fun h => by cases h⟩

theorem tableSpoilt_over : Rows.tableSpoiltRow.holds Tryz.pinned (OpenSpec.ofChange Rows.tableSpoiltSpec) :=
  OpenClaim.holds_of_wide 6 Tryz.f6 rfl rfl rfl rfl rfl rfl rfl ⟨rfl, rfl, rfl, rfl, rfl⟩ rfl rfl rfl rfl rfl (by kernel_rfl) Tryz.func6 (by kernel_rfl)
    (of_decide_eq_true (by kernel_rfl)) (by unfold Func.isWrapper; first | (rw [if_pos (by decide +kernel)]; kernel_rfl) | (rw [if_neg (by decide +kernel)]; exact ⟨rfl, rfl⟩))
    (fun os started H enc _ => tableSpoilt_lifted os started H enc)

/-- THE STATEMENT: the tied card. -/
theorem tableSpoilt_proved : Rows.TableSpoiltCardSaid :=
  Claim7.holds_tied_plain_at .later [] [.data, .data, .data] true _ false
    tableSpoilt_over (fun _ h => by cases h) (by kernel_rfl) (fun _ h => by cases h) tableSpoilt_row_tie rfl ⟨rfl, rfl⟩ (by kernel_rfl) rfl
    (fun f fn hf hfn => by
      obtain rfl : f = 6 := Option.some.inj ((show Tryz.prog.funcNamed Rows.tableSpoiltRow.func = some 6 by kernel_rfl).symm.trans hf) |>.symm
      obtain rfl : fn = Tryz.f6 := (Option.some.inj (Tryz.func6.symm.trans hfn)).symm
      exact ⟨by kernel_rfl, fun j t ht => by
        rw [Tryz.params6] at ht
        have hm : t ∈ [22, 22, 3] := by simpa using Array.mem_of_getElem? ht
        have hall : ([22, 22, 3].all fun u => !Tryz.prog.wantsStandIn u) = true := by kernel_rfl
        exact (show Tryz.prog.wantsStandIn t = false by simpa using List.all_eq_true.1 hall t hm)⟩)
    (by kernel_rfl)
#print axioms tableSpoilt_proved
end Go.Proofs.YthacphfjchpoaaaGreatDoor
