/-
  No cell of these rows narrows 'for every input' (looked for: loops, veiled, ifaces, maps, wideKeys, modest, calm, conditions, laid).
  DERIVED. THE GIVEN ROWS OF THIS SEAT. 3 by the template 'for every input the law returns true; each argument reads behind the call as it read before'; 0 by the template 'total and deterministic' (their statements: YtlklcjpmfjmenaaTotals.lean).
  GIVEN WITH THE SEED: the statements are not yours to turn. If you find one false, say at which input.
  Laid BY PROGRAM, IN A SANDBOX (cutbox-rows.mjs): the forced cells as the released guide's own fill.sh prints them over the translation 4f15805c4bc336a2… (all of the seat's roots in one cut). By AI agents, Wed Nov 11 2026. No macro, syntax, notation, axiom, sorry.
-/
import Derived.Test.YtlklcjpmfjmenaaChecked
import GoSem.Claim
import GoSem.ClaimJoined
import GoSem.ClaimMapViews
import Derived.JoinedTies
import Derived.KernelRfl
namespace Go.Proofs.Ytlklcjpmfjmenaa
/- THE CELL 'sum', in the pinned program and in every row, IS THE sha256 OF THE DUMP (.gsa) THAT YtlklcjpmfjmenaaProg.lean LOADS. Nothing in Lean hashes anything: it is a label: what it is worth is what the hold of that sum in a sandbox is worth. -/
noncomputable def Try.pinned : Pinned := { name := "ytlklcjpmfjmenaa", sum := "4f15805c4bc336a2a1ef3d35da94b8ee5e46a293378561b433fc4dfb36a2b165", checked := Try.checked }
namespace Rows
def none {H : Type} : Left H := { results := [], args := [] }

/-- 'corporalaw34.LinesMake': WHATEVER THE INPUT: true; the input reads as it did. -/
def linesMakeSpec : ChangeSpec := { name := "linesMake", fn := fun _ => fun
  | [d1, d2, d3] => { results := [.lit (.bool true)], args := [d1, d2, d3] }
  | _ => none }
def linesMakeRow : OpenClaim := { program := "ytlklcjpmfjmenaa", sum := "4f15805c4bc336a2a1ef3d35da94b8ee5e46a293378561b433fc4dfb36a2b165", func := "corpora/corporalaw34.LinesMake", spec := "linesMake", unfollowed := true, recurses := true, apart := false }
def LinesMakeSaid : Prop := linesMakeRow.holds Try.pinned (OpenSpec.ofChange linesMakeSpec)

/-- ITS FALSE NEIGHBOUR: 'it returns false'. Refute it at one input. -/
def linesMakeWrong : ChangeSpec := { name := "linesMake", fn := fun _ => fun
  | [d1, d2, d3] => { results := [.lit (.bool false)], args := [d1, d2, d3] }
  | _ => none }
def LinesMakeWrongFalsely : Prop := linesMakeRow.holds Try.pinned (OpenSpec.ofChange linesMakeWrong)

/-- 'corporalaw34.LinesStable': WHATEVER THE INPUT: true; the input reads as it did. -/
def linesStableSpec : ChangeSpec := { name := "linesStable", fn := fun _ => fun
  | [d1, d2, d3] => { results := [.lit (.bool true)], args := [d1, d2, d3] }
  | _ => none }
def linesStableRow : OpenClaim := { program := "ytlklcjpmfjmenaa", sum := "4f15805c4bc336a2a1ef3d35da94b8ee5e46a293378561b433fc4dfb36a2b165", func := "corpora/corporalaw34.LinesStable", spec := "linesStable", inPlace := ["internal/bytealg.abigen_runtime_cmpstring"], unfollowed := true, recurses := true, apart := false }
def LinesStableSaid : Prop := linesStableRow.holds Try.pinned (OpenSpec.ofChange linesStableSpec)

/-- ITS FALSE NEIGHBOUR: 'it returns false'. Refute it at one input. -/
def linesStableWrong : ChangeSpec := { name := "linesStable", fn := fun _ => fun
  | [d1, d2, d3] => { results := [.lit (.bool false)], args := [d1, d2, d3] }
  | _ => none }
def LinesStableWrongFalsely : Prop := linesStableRow.holds Try.pinned (OpenSpec.ofChange linesStableWrong)

/-- 'corporalaw34.LinesOrdered': WHATEVER THE INPUT: true; the input reads as it did. -/
def linesOrderedSpec : ChangeSpec := { name := "linesOrdered", fn := fun _ => fun
  | [d1, d2] => { results := [.lit (.bool true)], args := [d1, d2] }
  | _ => none }
def linesOrderedRow : OpenClaim := { program := "ytlklcjpmfjmenaa", sum := "4f15805c4bc336a2a1ef3d35da94b8ee5e46a293378561b433fc4dfb36a2b165", func := "corpora/corporalaw34.LinesOrdered", spec := "linesOrdered", inPlace := ["internal/bytealg.abigen_runtime_cmpstring"], unfollowed := true, recurses := true, apart := false }
def LinesOrderedSaid : Prop := linesOrderedRow.holds Try.pinned (OpenSpec.ofChange linesOrderedSpec)

/-- ITS FALSE NEIGHBOUR: 'it returns false'. Refute it at one input. -/
def linesOrderedWrong : ChangeSpec := { name := "linesOrdered", fn := fun _ => fun
  | [d1, d2] => { results := [.lit (.bool false)], args := [d1, d2] }
  | _ => none }
def LinesOrderedWrongFalsely : Prop := linesOrderedRow.holds Try.pinned (OpenSpec.ofChange linesOrderedWrong)

/- THE SECOND FORM. 'bulk': how many values and letters a reading holds, each counted each time it is reached (what is shared counts as often as it is met; a slice's spare places count too). A statement '..UptoSaid' is the law's where the arguments, and the package variables that the reading takes, are together of bulk at most 1048576: NARROWER than '..Said'. Prove '..Said' where nothing that the law and all that it calls make is longer than what came in: it says more and counts as full. Else prove '..UptoSaid'. A law counts once. -/
mutual
def uptoBulk {H : Type} : DataW H → Nat
  | .lit (.string bytes) => bytes.length + 1
  | .lit _ => 1
  | .nil => 1
  | .ptr d => uptoBulk d + 1
  | .slice elems spare => uptoBulkAll elems + uptoBulkAll spare + 1
  | .agg parts => uptoBulkAll parts + 1
  | .iface _ d => uptoBulk d + 1
  | .map entries => uptoBulkEntries entries + 1
  | .held _ => 1
def uptoBulkAll {H : Type} : List (DataW H) → Nat
  | [] => 0
  | d :: r => uptoBulk d + uptoBulkAll r
def uptoBulkEntries {H : Type} : List (Lit × DataW H) → Nat
  | [] => 0
  | x :: r => uptoBulkEntry x + uptoBulkEntries r
def uptoBulkEntry {H : Type} : Lit × DataW H → Nat
  | (.string bytes, d) => bytes.length + uptoBulk d + 1
  | (_, d) => uptoBulk d + 1
 end
def uptoSmall : (H : Type) → List (DataW H) → Bool := fun _ ds => decide (uptoBulkAll ds ≤ 1048576)
def OpenSpec.upto (s : _root_.Go.ChangeSpec) : _root_.Go.OpenSpec := { _root_.Go.OpenSpec.ofChange s with cond := some uptoSmall }

/-- 'corporalaw34.LinesMake', WHERE WHAT IT READS IS OF BULK AT MOST 1048576: true; the input reads as it did. -/
def linesMakeUptoRow : OpenClaim := { program := "ytlklcjpmfjmenaa", sum := "4f15805c4bc336a2a1ef3d35da94b8ee5e46a293378561b433fc4dfb36a2b165", func := "corpora/corporalaw34.LinesMake", spec := "linesMake", unfollowed := true, recurses := true, apart := false, narrowed := true }
def LinesMakeUptoSaid : Prop := linesMakeUptoRow.holds Try.pinned (OpenSpec.upto linesMakeSpec)

/-- 'corporalaw34.LinesStable', WHERE WHAT IT READS IS OF BULK AT MOST 1048576: true; the input reads as it did. -/
def linesStableUptoRow : OpenClaim := { program := "ytlklcjpmfjmenaa", sum := "4f15805c4bc336a2a1ef3d35da94b8ee5e46a293378561b433fc4dfb36a2b165", func := "corpora/corporalaw34.LinesStable", spec := "linesStable", inPlace := ["internal/bytealg.abigen_runtime_cmpstring"], unfollowed := true, recurses := true, apart := false, narrowed := true }
def LinesStableUptoSaid : Prop := linesStableUptoRow.holds Try.pinned (OpenSpec.upto linesStableSpec)

/-- 'corporalaw34.LinesOrdered', WHERE WHAT IT READS IS OF BULK AT MOST 1048576: true; the input reads as it did. -/
def linesOrderedUptoRow : OpenClaim := { program := "ytlklcjpmfjmenaa", sum := "4f15805c4bc336a2a1ef3d35da94b8ee5e46a293378561b433fc4dfb36a2b165", func := "corpora/corporalaw34.LinesOrdered", spec := "linesOrdered", inPlace := ["internal/bytealg.abigen_runtime_cmpstring"], unfollowed := true, recurses := true, apart := false, narrowed := true }
def LinesOrderedUptoSaid : Prop := linesOrderedUptoRow.holds Try.pinned (OpenSpec.upto linesOrderedSpec)

end Rows
end Go.Proofs.Ytlklcjpmfjmenaa
