/- PROVED: TopFold returns true for every input, panics at none, and its arguments read behind the call as before; where the listed package variables hold what the program lays them with: the tied card (Rows.TopFoldCardSaid). -/
import Derived.Test.YtpjdhokpfccahaaGreatDoorRows
import Derived.Test.YtpjdhokpfccahaaGreatDoorCards
import Derived.Test.YtpjdhokpfccahaaGreatDoorTie
import Derived.LaidMore
import Derived.Lay
import Derived.Stop.Joined
import Derived.Stop.LaidErr
import Derived.Lib.LaidTab
import Derived.SevenTiedAt
import Derived.Lib.LaidU8T
import Derived.WalkKit
import Derived.ProofKit
import Derived.OpenShut
import Derived.ShutString
import Derived.ChangeOld
import Derived.Below
import Derived.Test.YtpjdhokpfccahaaGreatDoorGL
import Derived.Test.YtpjdhokpfccahaaGreatDoorFFM
namespace Go.Proofs.YtpjdhokpfccahaaGreatDoor
open Go.ChangeShapes Go.WideShapes Go.ChangeAt Go.RowKit Go.WideMaps Go.WideElems
open Go.ChangeMaps (open_string shut_string)

theorem topFold_own : ownKnob Tryz.prog.godebug = none := by kernel_rfl
theorem topFold_walk (w : World) (hT : U8T (fun b => w.heap[b]?)) (a0 : Cp) (s0 : CpR (fun b => w.heap[b]?) a0) (a1 : ByteArray) (w1 : a1.size ≤ maxLen) :
    Calls Tryz.prog 3 #[cpV a0, .string a1] w fun e w' => e = .returned (.bool true) ∧ Below w.heap.size w w' :=
  (callsIn_wide.1 (Fn.get (fold_law awake_fn a0 a1 (fun b => w.heap[b]?) hT s0 (by have := w1; unfold maxLen at this; omega)) w (fun _ _ h => h))).mono fun e w' h => by
    obtain ⟨v, H', rfl, _, _, hk, rfl⟩ := h
    exact ⟨rfl, hk.below⟩

/-- the numbers of this seat for those of the library's bridge -/
def u8Ren : Shelf.Ren := ⟨fun n => n, fun n => if n = 5 then 5 else if n = 119 then 192 else if n = 138 then 195 else 196, fun n => if n = 3 then 0 else 1⟩
set_option maxRecDepth 100000 in
/-- the library's tables, off the condition -/
theorem topFold_tabs {W : World} (h : laidMetH Tryz.prog Rows.topFoldRow.laid W) : U8T (fun b => W.heap[b]?) := by
  rw [MakeChecks.laidMetH_plain _ _ _ (by kernel_rfl)] at h
  have h1 : Lib.VarReads Tryz.prog W "unicode/utf8.acceptRanges" Rows.laid_unicode_utf8_acceptRanges := Lib.laidMet.reads h (.head _)
  have h2 : Lib.VarReads Tryz.prog W "unicode/utf8.first" Rows.laid_unicode_utf8_first := Lib.laidMet.reads h (.tail _ (.head _))
  have e1 : (Rows.laid_unicode_utf8_acceptRanges : DataW Unit) = Lib.acceptData := by kernel_rfl
  have e2 : (Rows.laid_unicode_utf8_first : DataW Unit) = Lib.firstData := by kernel_rfl
  rw [e1] at h1
  rw [e2] at h2
  exact U8T.of (utf8Tabs_of_readsT (ρ := u8Ren) ⟨Tryz.underlying5, Tryz.underlying192, Tryz.underlying195, Tryz.underlying196⟩ ⟨by kernel_rfl, by kernel_rfl, by kernel_rfl, by kernel_rfl, by kernel_rfl, by kernel_rfl, by kernel_rfl⟩ h2 h1)

set_option maxRecDepth 100000 in
theorem topFold_lifted (os : Os) (started : os.Started) (H : Type) (enc : TypeId × Value → H) :
    ReturnsInHanded {} Tryz.checked os 3 .any (fun w args => (Rows.topFoldSpec.pre enc Tryz.prog Tryz.f3 [] false w args ∧ laidMetH Tryz.prog Rows.topFoldRow.laid w) ∧ sizedMet enc Tryz.prog Tryz.f3 (OpenSpec.ofChange Rows.topFoldSpec) false w args) (Rows.topFoldSpec.post enc Tryz.prog Tryz.f3 false true false false) := by
  refine returnsInHanded_of_change_and (C := Tryz.checked) (X := fun w _ => laidMetH Tryz.prog Rows.topFoldRow.laid w) (fun _ _ _ hh h => h.of_heap hh) topFold_own started (by kernel_rfl) Tryz.func3
    (ChangeSpec.witness_shaped (enc := enc) (C := Tryz.checked) (os := os) (X := fun w _ => laidMetH Tryz.prog Rows.topFoldRow.laid w) false (World.laidAll Tryz.prog os Rows.topFoldRow.laid) #[.agg #[.slice none 0 0, .slice none 0 0, .slice none 0 0, .slice none 0 0, .slice none 0 0, .slice none 0 0, .slice none 0 0], .string ByteArray.empty] 8 (World.laidAll_os _ _ _) (World.shaped_of_ZipB (by kernel_rfl) (by kernel_rfl)) (by kernel_rfl) (by kernel_rfl) (by kernel_rfl)
      (by rw [MakeChecks.laidMetH_plain _ _ _ (by kernel_rfl)]; exact laidMet_laidAll _ (by kernel_rfl) (by kernel_rfl))) ?_
  intro W base args ds gs before hval0 hW _ _ hL _
  have hT := topFold_tabs hL
  have hval : ∀ (j : Nat) t v, Tryz.f3.params[j]? = some t → args[j]? = some v → Value.okWide Tryz.prog W .any base t v := hval0
  have hW' := hW
  obtain ⟨p, q, hA0, hV, rfl, hfz, hnd⟩ := hW
  have hA : DataW.TrodAll enc Tryz.prog W 0 (fun _ => true) true Tryz.f3.params.toList args.toList ds p := hA0
  have hK : DataW.TrodAll enc Tryz.prog W 0 (fun _ => true) true Tryz.f3.params.toList args.toList ds p := hA0
  rw [Tryz.params3] at hA hval
  obtain ⟨v0, vs0, d0, ds0, p0, q0, hargs, rfl, rfl, h0, r0⟩ := trodAll_cons hA
  obtain ⟨v1, vs1, d1, ds1, p1, q1, rfl, rfl, rfl, h1, r1⟩ := trodAll_cons r0
  obtain ⟨rfl, rfl, rfl⟩ := trodAll_nil r1
  obtain rfl : args = #[v0, v1] := by cases args; simp_all
  obtain ⟨rfl, rfl⟩ := trodVars_none hV
  obtain ⟨a0, rfl, s0⟩ := open_corpus (hval 0 30 v0 rfl rfl) h0
  obtain ⟨a1, rfl, rfl, rfl, w1⟩ := open_string Tryz.underlying9 (hval 1 9 v1 rfl rfl) h1
  refine (topFold_walk W hT a0 s0 a1 w1).mono fun e W' ⟨he, bel⟩ => ?_
  subst he
  exact ⟨_, rfl, _, _, _, [], _, [], hW', trodAll_mk1 (shut_bool Tryz.underlying4 _), args_behind (by kernel_rfl) (by kernel_rfl) (by kernel_rfl) bel (by kernel_rfl) hK, rfl, bel.frame _, fun h => by cases h⟩

theorem topFold_over : Rows.topFoldRow.holds Tryz.pinned (OpenSpec.ofChange Rows.topFoldSpec) :=
  OpenClaim.holds_of_wide 3 Tryz.f3 rfl rfl rfl rfl rfl rfl rfl ⟨rfl, rfl, rfl, rfl, rfl⟩ rfl rfl rfl rfl rfl (by kernel_rfl) Tryz.func3 (by kernel_rfl)
    (of_decide_eq_true (by kernel_rfl)) (by unfold Func.isWrapper; first | (rw [if_pos (by decide +kernel)]; kernel_rfl) | (rw [if_neg (by decide +kernel)]; exact ⟨rfl, rfl⟩))
    (fun os started H enc _ => topFold_lifted os started H enc)

/-- THE STATEMENT: the tied card. -/
theorem topFold_proved : Rows.TopFoldCardSaid :=
  Claim7.holds_tied_plain_at .later [] [.data, .pinned] true _ true
    topFold_over (fun _ h => by cases h) (by kernel_rfl) (fun _ h => by cases h) topFold_row_tie rfl ⟨rfl, rfl⟩ (by kernel_rfl) rfl
    (fun f fn hf hfn => by
      obtain rfl : f = 3 := Option.some.inj ((show Tryz.prog.funcNamed Rows.topFoldRow.func = some 3 by kernel_rfl).symm.trans hf) |>.symm
      obtain rfl : fn = Tryz.f3 := (Option.some.inj (Tryz.func3.symm.trans hfn)).symm
      exact ⟨by kernel_rfl, fun j t ht => by
        rw [Tryz.params3] at ht
        have hm : t ∈ [30, 9] := by simpa using Array.mem_of_getElem? ht
        have hall : ([30, 9].all fun u => !Tryz.prog.wantsStandIn u) = true := by kernel_rfl
        exact (show Tryz.prog.wantsStandIn t = false by simpa using List.all_eq_true.1 hall t hm)⟩)
    (by kernel_rfl)
#print axioms topFold_proved
end Go.Proofs.YtpjdhokpfccahaaGreatDoor
