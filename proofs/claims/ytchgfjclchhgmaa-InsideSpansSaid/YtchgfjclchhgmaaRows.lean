/-
  No cell of these rows narrows 'for every input' (looked for: loops, veiled, ifaces, maps, wideKeys, modest, calm, conditions, laid).
  DERIVED. THE GIVEN ROWS OF THIS SEAT. 8 by the template 'for every input the law returns true; each argument reads behind the call as it read before'; 0 by the template 'total and deterministic' (their statements: YtchgfjclchhgmaaTotals.lean).
  GIVEN WITH THE SEED: the statements are not yours to turn. If you find one false, say at which input.
  Laid BY PROGRAM, IN A SANDBOX (cutbox-rows.mjs): the forced cells as the released guide's own fill.sh prints them over the translation 3e618de56745f2c4… (all of the seat's roots in one cut). By AI agents, Wed Nov 11 2026. No macro, syntax, notation, axiom, sorry.
-/
import Derived.Test.YtchgfjclchhgmaaChecked
import GoSem.Claim
import GoSem.ClaimJoined
import GoSem.ClaimMapViews
import Derived.JoinedTies
import Derived.KernelRfl
namespace Go.Proofs.Ytchgfjclchhgmaa
/- THE CELL 'sum', in the pinned program and in every row, IS THE sha256 OF THE DUMP (.gsa) THAT YtchgfjclchhgmaaProg.lean LOADS. Nothing in Lean hashes anything: it is a label: what it is worth is what the hold of that sum in a sandbox is worth. -/
noncomputable def Try.pinned : Pinned := { name := "ytchgfjclchhgmaa", sum := "3e618de56745f2c461e1f63ed173d5b5bc7d11840331221cb80ff6b408f5f98c", checked := Try.checked }
namespace Rows
def none {H : Type} : Left H := { results := [], args := [] }

/-- 'corporalaw28.InsideRaw': WHATEVER THE INPUT: true; the input reads as it did. -/
def insideRawSpec : ChangeSpec := { name := "insideRaw", fn := fun _ => fun
  | [d1, d2, d3] => { results := [.lit (.bool true)], args := [d1, d2, d3] }
  | _ => none }
def insideRawRow : OpenClaim := { program := "ytchgfjclchhgmaa", sum := "3e618de56745f2c461e1f63ed173d5b5bc7d11840331221cb80ff6b408f5f98c", func := "corpora/corporalaw28.InsideRaw", spec := "insideRaw", unfollowed := true, recurses := true, apart := false }
def InsideRawSaid : Prop := insideRawRow.holds Try.pinned (OpenSpec.ofChange insideRawSpec)

/-- ITS FALSE NEIGHBOUR: 'it returns false'. Refute it at one input. -/
def insideRawWrong : ChangeSpec := { name := "insideRaw", fn := fun _ => fun
  | [d1, d2, d3] => { results := [.lit (.bool false)], args := [d1, d2, d3] }
  | _ => none }
def InsideRawWrongFalsely : Prop := insideRawRow.holds Try.pinned (OpenSpec.ofChange insideRawWrong)

/-- 'corporalaw28.InsideImplies': WHATEVER THE INPUT: true; the input reads as it did. -/
def insideImpliesSpec : ChangeSpec := { name := "insideImplies", fn := fun _ => fun
  | [d] => { results := [.lit (.bool true)], args := [d] }
  | _ => none }
def insideImpliesRow : OpenClaim := { program := "ytchgfjclchhgmaa", sum := "3e618de56745f2c461e1f63ed173d5b5bc7d11840331221cb80ff6b408f5f98c", func := "corpora/corporalaw28.InsideImplies", spec := "insideImplies", unfollowed := true, recurses := true, apart := false }
def InsideImpliesSaid : Prop := insideImpliesRow.holds Try.pinned (OpenSpec.ofChange insideImpliesSpec)

/-- ITS FALSE NEIGHBOUR: 'it returns false'. Refute it at one input. -/
def insideImpliesWrong : ChangeSpec := { name := "insideImplies", fn := fun _ => fun
  | [d] => { results := [.lit (.bool false)], args := [d] }
  | _ => none }
def InsideImpliesWrongFalsely : Prop := insideImpliesRow.holds Try.pinned (OpenSpec.ofChange insideImpliesWrong)

/-- 'corporalaw28.InsideInnermost': WHATEVER THE INPUT: true; the input reads as it did. -/
def insideInnermostSpec : ChangeSpec := { name := "insideInnermost", fn := fun _ => fun
  | [d] => { results := [.lit (.bool true)], args := [d] }
  | _ => none }
def insideInnermostRow : OpenClaim := { program := "ytchgfjclchhgmaa", sum := "3e618de56745f2c461e1f63ed173d5b5bc7d11840331221cb80ff6b408f5f98c", func := "corpora/corporalaw28.InsideInnermost", spec := "insideInnermost", unfollowed := true, recurses := true, apart := false }
def InsideInnermostSaid : Prop := insideInnermostRow.holds Try.pinned (OpenSpec.ofChange insideInnermostSpec)

/-- ITS FALSE NEIGHBOUR: 'it returns false'. Refute it at one input. -/
def insideInnermostWrong : ChangeSpec := { name := "insideInnermost", fn := fun _ => fun
  | [d] => { results := [.lit (.bool false)], args := [d] }
  | _ => none }
def InsideInnermostWrongFalsely : Prop := insideInnermostRow.holds Try.pinned (OpenSpec.ofChange insideInnermostWrong)

/-- 'corporalaw28.InsideApplies': WHATEVER THE INPUT: true; the input reads as it did. -/
def insideAppliesSpec : ChangeSpec := { name := "insideApplies", fn := fun _ => fun
  | [d] => { results := [.lit (.bool true)], args := [d] }
  | _ => none }
def insideAppliesRow : OpenClaim := { program := "ytchgfjclchhgmaa", sum := "3e618de56745f2c461e1f63ed173d5b5bc7d11840331221cb80ff6b408f5f98c", func := "corpora/corporalaw28.InsideApplies", spec := "insideApplies", unfollowed := true, recurses := true, apart := false }
def InsideAppliesSaid : Prop := insideAppliesRow.holds Try.pinned (OpenSpec.ofChange insideAppliesSpec)

/-- ITS FALSE NEIGHBOUR: 'it returns false'. Refute it at one input. -/
def insideAppliesWrong : ChangeSpec := { name := "insideApplies", fn := fun _ => fun
  | [d] => { results := [.lit (.bool false)], args := [d] }
  | _ => none }
def InsideAppliesWrongFalsely : Prop := insideAppliesRow.holds Try.pinned (OpenSpec.ofChange insideAppliesWrong)

/-- 'corporalaw28.InsideNot': WHATEVER THE INPUT: true; the input reads as it did. -/
def insideNotSpec : ChangeSpec := { name := "insideNot", fn := fun _ => fun
  | [d] => { results := [.lit (.bool true)], args := [d] }
  | _ => none }
def insideNotRow : OpenClaim := { program := "ytchgfjclchhgmaa", sum := "3e618de56745f2c461e1f63ed173d5b5bc7d11840331221cb80ff6b408f5f98c", func := "corpora/corporalaw28.InsideNot", spec := "insideNot", unfollowed := true, recurses := true, apart := false }
def InsideNotSaid : Prop := insideNotRow.holds Try.pinned (OpenSpec.ofChange insideNotSpec)

/-- ITS FALSE NEIGHBOUR: 'it returns false'. Refute it at one input. -/
def insideNotWrong : ChangeSpec := { name := "insideNot", fn := fun _ => fun
  | [d] => { results := [.lit (.bool false)], args := [d] }
  | _ => none }
def InsideNotWrongFalsely : Prop := insideNotRow.holds Try.pinned (OpenSpec.ofChange insideNotWrong)

/-- 'corporalaw28.InsideSplits': WHATEVER THE INPUT: true; the input reads as it did. -/
def insideSplitsSpec : ChangeSpec := { name := "insideSplits", fn := fun _ => fun
  | [d] => { results := [.lit (.bool true)], args := [d] }
  | _ => none }
def insideSplitsRow : OpenClaim := { program := "ytchgfjclchhgmaa", sum := "3e618de56745f2c461e1f63ed173d5b5bc7d11840331221cb80ff6b408f5f98c", func := "corpora/corporalaw28.InsideSplits", spec := "insideSplits", unfollowed := true, recurses := true, apart := false }
def InsideSplitsSaid : Prop := insideSplitsRow.holds Try.pinned (OpenSpec.ofChange insideSplitsSpec)

/-- ITS FALSE NEIGHBOUR: 'it returns false'. Refute it at one input. -/
def insideSplitsWrong : ChangeSpec := { name := "insideSplits", fn := fun _ => fun
  | [d] => { results := [.lit (.bool false)], args := [d] }
  | _ => none }
def InsideSplitsWrongFalsely : Prop := insideSplitsRow.holds Try.pinned (OpenSpec.ofChange insideSplitsWrong)

/-- 'corporalaw28.InsideHolds': WHATEVER THE INPUT: true; the input reads as it did. -/
def insideHoldsSpec : ChangeSpec := { name := "insideHolds", fn := fun _ => fun
  | [d] => { results := [.lit (.bool true)], args := [d] }
  | _ => none }
def insideHoldsRow : OpenClaim := { program := "ytchgfjclchhgmaa", sum := "3e618de56745f2c461e1f63ed173d5b5bc7d11840331221cb80ff6b408f5f98c", func := "corpora/corporalaw28.InsideHolds", spec := "insideHolds", unfollowed := true, recurses := true, apart := false }
def InsideHoldsSaid : Prop := insideHoldsRow.holds Try.pinned (OpenSpec.ofChange insideHoldsSpec)

/-- ITS FALSE NEIGHBOUR: 'it returns false'. Refute it at one input. -/
def insideHoldsWrong : ChangeSpec := { name := "insideHolds", fn := fun _ => fun
  | [d] => { results := [.lit (.bool false)], args := [d] }
  | _ => none }
def InsideHoldsWrongFalsely : Prop := insideHoldsRow.holds Try.pinned (OpenSpec.ofChange insideHoldsWrong)

/-- 'corporalaw28.InsideSpans': WHATEVER THE INPUT: true; the input reads as it did. -/
def insideSpansSpec : ChangeSpec := { name := "insideSpans", fn := fun _ => fun
  | [d] => { results := [.lit (.bool true)], args := [d] }
  | _ => none }
def insideSpansRow : OpenClaim := { program := "ytchgfjclchhgmaa", sum := "3e618de56745f2c461e1f63ed173d5b5bc7d11840331221cb80ff6b408f5f98c", func := "corpora/corporalaw28.InsideSpans", spec := "insideSpans", unfollowed := true, recurses := true, apart := false }
def InsideSpansSaid : Prop := insideSpansRow.holds Try.pinned (OpenSpec.ofChange insideSpansSpec)

/-- ITS FALSE NEIGHBOUR: 'it returns false'. Refute it at one input. -/
def insideSpansWrong : ChangeSpec := { name := "insideSpans", fn := fun _ => fun
  | [d] => { results := [.lit (.bool false)], args := [d] }
  | _ => none }
def InsideSpansWrongFalsely : Prop := insideSpansRow.holds Try.pinned (OpenSpec.ofChange insideSpansWrong)

/- THE SECOND FORM. 'bulk': how many values and letters a reading holds, each counted each time it is reached (what is shared counts as often as it is met; a slice's spare places count too). A statement '..UptoSaid' is the law's where the arguments, and the package variables that the reading takes, are together of bulk at most 1048576: NARROWER than '..Said'. Prove '..Said' where nothing that the law and all that it calls make is longer than what came in: it says more and counts as full. Else prove '..UptoSaid'. A law counts once. -/
mutual
def uptoBulk {H : Type} : DataW H → Nat
  | .lit (.string bytes) => bytes.length + 1
  | .lit _ => 1
  | .nil => 1
  | .ptr d => uptoBulk d + 1
  | .slice elems spare => uptoBulkAll elems + uptoBulkAll spare + 1
  | .agg parts => uptoBulkAll parts + 1
  | .iface _ d => uptoBulk d + 1
  | .map entries => uptoBulkEntries entries + 1
  | .held _ => 1
def uptoBulkAll {H : Type} : List (DataW H) → Nat
  | [] => 0
  | d :: r => uptoBulk d + uptoBulkAll r
def uptoBulkEntries {H : Type} : List (Lit × DataW H) → Nat
  | [] => 0
  | x :: r => uptoBulkEntry x + uptoBulkEntries r
def uptoBulkEntry {H : Type} : Lit × DataW H → Nat
  | (.string bytes, d) => bytes.length + uptoBulk d + 1
  | (_, d) => uptoBulk d + 1
 end
def uptoSmall : (H : Type) → List (DataW H) → Bool := fun _ ds => decide (uptoBulkAll ds ≤ 1048576)
def OpenSpec.upto (s : _root_.Go.ChangeSpec) : _root_.Go.OpenSpec := { _root_.Go.OpenSpec.ofChange s with cond := some uptoSmall }

/-- 'corporalaw28.InsideRaw', WHERE WHAT IT READS IS OF BULK AT MOST 1048576: true; the input reads as it did. -/
def insideRawUptoRow : OpenClaim := { program := "ytchgfjclchhgmaa", sum := "3e618de56745f2c461e1f63ed173d5b5bc7d11840331221cb80ff6b408f5f98c", func := "corpora/corporalaw28.InsideRaw", spec := "insideRaw", unfollowed := true, recurses := true, apart := false, narrowed := true }
def InsideRawUptoSaid : Prop := insideRawUptoRow.holds Try.pinned (OpenSpec.upto insideRawSpec)

/-- 'corporalaw28.InsideImplies', WHERE WHAT IT READS IS OF BULK AT MOST 1048576: true; the input reads as it did. -/
def insideImpliesUptoRow : OpenClaim := { program := "ytchgfjclchhgmaa", sum := "3e618de56745f2c461e1f63ed173d5b5bc7d11840331221cb80ff6b408f5f98c", func := "corpora/corporalaw28.InsideImplies", spec := "insideImplies", unfollowed := true, recurses := true, apart := false, narrowed := true }
def InsideImpliesUptoSaid : Prop := insideImpliesUptoRow.holds Try.pinned (OpenSpec.upto insideImpliesSpec)

/-- 'corporalaw28.InsideInnermost', WHERE WHAT IT READS IS OF BULK AT MOST 1048576: true; the input reads as it did. -/
def insideInnermostUptoRow : OpenClaim := { program := "ytchgfjclchhgmaa", sum := "3e618de56745f2c461e1f63ed173d5b5bc7d11840331221cb80ff6b408f5f98c", func := "corpora/corporalaw28.InsideInnermost", spec := "insideInnermost", unfollowed := true, recurses := true, apart := false, narrowed := true }
def InsideInnermostUptoSaid : Prop := insideInnermostUptoRow.holds Try.pinned (OpenSpec.upto insideInnermostSpec)

/-- 'corporalaw28.InsideApplies', WHERE WHAT IT READS IS OF BULK AT MOST 1048576: true; the input reads as it did. -/
def insideAppliesUptoRow : OpenClaim := { program := "ytchgfjclchhgmaa", sum := "3e618de56745f2c461e1f63ed173d5b5bc7d11840331221cb80ff6b408f5f98c", func := "corpora/corporalaw28.InsideApplies", spec := "insideApplies", unfollowed := true, recurses := true, apart := false, narrowed := true }
def InsideAppliesUptoSaid : Prop := insideAppliesUptoRow.holds Try.pinned (OpenSpec.upto insideAppliesSpec)

/-- 'corporalaw28.InsideNot', WHERE WHAT IT READS IS OF BULK AT MOST 1048576: true; the input reads as it did. -/
def insideNotUptoRow : OpenClaim := { program := "ytchgfjclchhgmaa", sum := "3e618de56745f2c461e1f63ed173d5b5bc7d11840331221cb80ff6b408f5f98c", func := "corpora/corporalaw28.InsideNot", spec := "insideNot", unfollowed := true, recurses := true, apart := false, narrowed := true }
def InsideNotUptoSaid : Prop := insideNotUptoRow.holds Try.pinned (OpenSpec.upto insideNotSpec)

/-- 'corporalaw28.InsideSplits', WHERE WHAT IT READS IS OF BULK AT MOST 1048576: true; the input reads as it did. -/
def insideSplitsUptoRow : OpenClaim := { program := "ytchgfjclchhgmaa", sum := "3e618de56745f2c461e1f63ed173d5b5bc7d11840331221cb80ff6b408f5f98c", func := "corpora/corporalaw28.InsideSplits", spec := "insideSplits", unfollowed := true, recurses := true, apart := false, narrowed := true }
def InsideSplitsUptoSaid : Prop := insideSplitsUptoRow.holds Try.pinned (OpenSpec.upto insideSplitsSpec)

/-- 'corporalaw28.InsideHolds', WHERE WHAT IT READS IS OF BULK AT MOST 1048576: true; the input reads as it did. -/
def insideHoldsUptoRow : OpenClaim := { program := "ytchgfjclchhgmaa", sum := "3e618de56745f2c461e1f63ed173d5b5bc7d11840331221cb80ff6b408f5f98c", func := "corpora/corporalaw28.InsideHolds", spec := "insideHolds", unfollowed := true, recurses := true, apart := false, narrowed := true }
def InsideHoldsUptoSaid : Prop := insideHoldsUptoRow.holds Try.pinned (OpenSpec.upto insideHoldsSpec)

/-- 'corporalaw28.InsideSpans', WHERE WHAT IT READS IS OF BULK AT MOST 1048576: true; the input reads as it did. -/
def insideSpansUptoRow : OpenClaim := { program := "ytchgfjclchhgmaa", sum := "3e618de56745f2c461e1f63ed173d5b5bc7d11840331221cb80ff6b408f5f98c", func := "corpora/corporalaw28.InsideSpans", spec := "insideSpans", unfollowed := true, recurses := true, apart := false, narrowed := true }
def InsideSpansUptoSaid : Prop := insideSpansUptoRow.holds Try.pinned (OpenSpec.upto insideSpansSpec)

end Rows
end Go.Proofs.Ytchgfjclchhgmaa
