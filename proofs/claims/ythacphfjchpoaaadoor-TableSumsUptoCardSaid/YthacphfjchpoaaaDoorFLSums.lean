/- PROVED: TableSums returns true for every input, panics at none, and its arguments read behind the call as before; where the listed package variables hold what the program lays them with: the tied card (Rows.TableSumsCardSaid). -/
import Derived.Test.YthacphfjchpoaaaDoorRows
import Derived.Test.YthacphfjchpoaaaDoorCards
import Derived.Test.YthacphfjchpoaaaDoorTie
import Derived.LaidMore
import Derived.Stop.Joined
import Derived.Stop.LaidErr
import Derived.Lib.LaidTab
import Derived.SevenTiedAt
import Derived.WalkKit
import Derived.ProofKit
import Derived.OpenShut
import Derived.ShutString
import Derived.ChangeOld
import Derived.Below
import Derived.Test.YthacphfjchpoaaaDoorGQ
namespace Go.Proofs.YthacphfjchpoaaaDoor
open Go.ChangeShapes Go.WideShapes Go.ChangeAt Go.RowKit Go.WideMaps Go.WideElems
open Go.ChangeMaps (open_string shut_string)

theorem tableSums_own : ownKnob Tryd.prog.godebug = none := by kernel_rfl
theorem tableSums_walk (w : World) (hP : PowT (fun b => w.heap[b]?)) (a0 : List Rw) (u0 : Value) (s0 : RwL0 (fun b => w.heap[b]?) u0 a0) (a1 : List Rw) (u1 : Value) (s1 : RwL0 (fun b => w.heap[b]?) u1 a1) (a2 : Int) (w2 : (Lit.int .i64 a2).wf = true) :
    Calls Tryd.prog 3 #[u0, u1, .int .i64 a2] w fun e w' => e = .returned (.bool true) ∧ Below w.heap.size w w' :=
  (callsIn_wide.1 (Fn.get (sums_law a0 a1 a2 u0 u1 (fun b => w.heap[b]?) hP s0 s1) w (fun _ _ h => h))).mono fun e w' h => by
    obtain ⟨v, H', rfl, _, _, hk, rfl⟩ := h
    exact ⟨rfl, hk.below⟩

/-- the door's own heap meets the condition -/
theorem tableSums_door (os : Os) (args : Array Value) : laidMetH Tryd.prog Rows.tableSumsUptoRow.laid ((World.doorLaid Tryd.prog 400 os).forCall (fun _ _ => 0) ⟨#[], args, []⟩).memory :=
  laidMetH_of_parts3 (fuel := 8) (laidMet_of_run' 8 (by kernel_rfl) (by kernel_rfl)) (by kernel_rfl) (by kernel_rfl)
set_option maxRecDepth 100000 in
/-- the table of powers, off the condition -/
theorem tableSums_pow {W : World} (h : laidMetH Tryd.prog Rows.tableSumsUptoRow.laid W) : PowT (fun b => W.heap[b]?) := by
  rw [MakeChecks.laidMetH_plain _ _ _ (by kernel_rfl)] at h
  have h3 : laidMet Tryd.prog ((_, Lib.tabData .u64 Lib.pow10Tab) :: []) W := laidMet.tail (laidMet.tail h)
  have ht := Lib.tabIs_of_head (g := 0) (by kernel_rfl) (by kernel_rfl) Tryd.underlying145 Tryd.underlying101 (by kernel_rfl) (by kernel_rfl) h3
  unfold Lib.TabIs World.var? at ht
  obtain ⟨g, hg, ht⟩ := Option.bind_eq_some_iff.1 ht
  obtain rfl : g = 0 := Option.some.inj (hg.symm.trans (by kernel_rfl))
  split at ht
  · rename_i cs t fz hc
    obtain rfl := Option.some.inj ht
    exact ⟨t, fz, hc⟩
  · cases ht

set_option maxRecDepth 100000 in
theorem tableSums_lifted (os : Os) (started : os.Started) (H : Type) (enc : TypeId × Value → H) (F : Stop.Interp) :
    ReturnsInHanded {} Tryd.checked os 3 .any (fun w args => ((Rows.OpenSpec.upto Rows.tableSumsSpec).pre enc Tryd.prog Tryd.f3 [] false w args ∧ laidMetH Tryd.prog Rows.tableSumsUptoRow.laid w) ∧ sizedMet enc Tryd.prog Tryd.f3 (Rows.OpenSpec.upto Rows.tableSumsSpec) false w args) (((Rows.OpenSpec.upto Rows.tableSumsSpec).at F).post enc Tryd.prog Tryd.f3 false true false false) := by
  refine rih_cond_and (C := Tryd.checked) (k := Rows.uptoSmall) rfl (X := fun w _ => laidMetH Tryd.prog Rows.tableSumsUptoRow.laid w) (fun _ _ _ hh h => h.of_heap hh) tableSums_own started (by kernel_rfl) Tryd.func3
    (wit_cond (enc := enc) (C := Tryd.checked) (os := os) (k := Rows.uptoSmall) rfl (X := fun w _ => laidMetH Tryd.prog Rows.tableSumsUptoRow.laid w) false (World.doorLaid Tryd.prog 400 os) #[.slice none 0 0, .slice none 0 0, .int .i64 0] 8 rfl (World.shaped_of_RefB (by kernel_rfl) (by kernel_rfl)) (by kernel_rfl) (by kernel_rfl) (by kernel_rfl) (tableSums_door os _)) ?_
  intro W base args ds gs before hval0 hW hkk hL
  have hP := tableSums_pow hL
  have hval : ∀ (j : Nat) t v, Tryd.f3.params[j]? = some t → args[j]? = some v → Value.okWide Tryd.prog W .any base t v := hval0
  have hW' := hW
  obtain ⟨p, q, hA0, hV, rfl, hfz, hnd⟩ := hW
  have hA : DataW.TrodAll enc Tryd.prog W 0 (fun _ => true) true Tryd.f3.params.toList args.toList ds p := hA0
  have hK : DataW.TrodAll enc Tryd.prog W 0 (fun _ => true) true Tryd.f3.params.toList args.toList ds p := hA0
  rw [Tryd.params3] at hA hval
  obtain ⟨v0, vs0, d0, ds0, p0, q0, hargs, rfl, rfl, h0, r0⟩ := trodAll_cons hA
  obtain ⟨v1, vs1, d1, ds1, p1, q1, rfl, rfl, rfl, h1, r1⟩ := trodAll_cons r0
  obtain ⟨v2, vs2, d2, ds2, p2, q2, rfl, rfl, rfl, h2, r2⟩ := trodAll_cons r1
  obtain ⟨rfl, rfl, rfl⟩ := trodAll_nil r2
  obtain rfl : args = #[v0, v1, v2] := by cases args; simp_all
  obtain ⟨rfl, rfl⟩ := trodVars_none hV
  have hB : Rows.uptoBulkAll ([d0, d1, d2] ++ []) ≤ 1048576 := of_decide_eq_true hkk
  simp only [List.append_nil, Rows.uptoBulkAll] at hB
  obtain ⟨a0, s0⟩ := open_rows Tryd.underlying22 Tryd.underlying34 (by kernel_rfl) (by kernel_rfl) Tryd.underlying32 Tryd.underlying9 (by kernel_rfl) Tryd.underlying3 (hval 0 22 v0 rfl rfl) h0 (by omega)
  obtain ⟨a1, s1⟩ := open_rows Tryd.underlying22 Tryd.underlying34 (by kernel_rfl) (by kernel_rfl) Tryd.underlying32 Tryd.underlying9 (by kernel_rfl) Tryd.underlying3 (hval 1 22 v1 rfl rfl) h1 (by omega)
  obtain ⟨a2, rfl, rfl, rfl, w2⟩ := open_int Tryd.underlying3 (hval 2 3 v2 rfl rfl) h2
  refine (tableSums_walk W hP a0 v0 s0 a1 v1 s1 a2 w2).mono fun e W' ⟨he, bel⟩ => ?_
  subst he
  exact ⟨_, rfl, _, _, _, [], _, [], hW', trodAll_mk1 (shut_bool Tryd.underlying4 _), args_behind (by kernel_rfl) (by kernel_rfl) (by kernel_rfl) bel (by kernel_rfl) hK, rfl, bel.frame _, fun h => by cases h⟩

theorem tableSums_over : Rows.tableSumsUptoRow.holds Tryd.pinned (Rows.OpenSpec.upto Rows.tableSumsSpec) :=
  OpenClaim.holds_of_cond 3 Tryd.f3 rfl rfl rfl rfl rfl rfl rfl ⟨rfl, rfl, rfl, rfl, rfl⟩ rfl rfl rfl rfl rfl (by kernel_rfl) Tryd.func3 (by kernel_rfl)
    (of_decide_eq_true (by kernel_rfl)) (by unfold Func.isWrapper; first | (rw [if_pos (by decide +kernel)]; kernel_rfl) | (rw [if_neg (by decide +kernel)]; exact ⟨rfl, rfl⟩))
    (fun os started H enc _ F => tableSums_lifted os started H enc F)

/-- THE STATEMENT: the tied card. -/
theorem tableSumsUpto_proved : Rows.TableSumsUptoCardSaid :=
  Claim7.holds_tied_plain_at .later [] [.data, .data, .data] true _ false
    tableSums_over (fun _ h => by cases h) (by kernel_rfl) (fun _ h => by cases h) tableSumsUpto_row_tie rfl ⟨rfl, rfl⟩ (by kernel_rfl) rfl
    (fun f fn hf hfn => by
      obtain rfl : f = 3 := Option.some.inj ((show Tryd.prog.funcNamed Rows.tableSumsUptoRow.func = some 3 by kernel_rfl).symm.trans hf) |>.symm
      obtain rfl : fn = Tryd.f3 := (Option.some.inj (Tryd.func3.symm.trans hfn)).symm
      exact ⟨by kernel_rfl, fun j t ht => by
        rw [Tryd.params3] at ht
        have hm : t ∈ [22, 22, 3] := by simpa using Array.mem_of_getElem? ht
        have hall : ([22, 22, 3].all fun u => !Tryd.prog.wantsStandIn u) = true := by kernel_rfl
        exact (show Tryd.prog.wantsStandIn t = false by simpa using List.all_eq_true.1 hall t hm)⟩)
    (by kernel_rfl)
#print axioms tableSumsUpto_proved
end Go.Proofs.YthacphfjchpoaaaDoor
