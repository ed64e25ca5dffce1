/-
  No cell of these rows narrows 'for every input' (looked for: loops, veiled, ifaces, maps, wideKeys, modest, calm, conditions, laid).
  DERIVED. THE GIVEN ROWS OF THIS SEAT. 7 by the template 'for every input the law returns true; each argument reads behind the call as it read before'; 0 by the template 'total and deterministic' (their statements: YtceaicameojcaaaTotals.lean).
  GIVEN WITH THE SEED: the statements are not yours to turn. If you find one false, say at which input.
  Laid BY PROGRAM, IN A SANDBOX (cutbox-rows.mjs): the forced cells as the released guide's own fill.sh prints them over the translation 6f5300dc001fbfbd… (all of the seat's roots in one cut). By AI agents, Wed Nov 11 2026. No macro, syntax, notation, axiom, sorry.
-/
import Derived.Test.YtceaicameojcaaaChecked
import GoSem.Claim
import GoSem.ClaimJoined
import GoSem.ClaimMapViews
import Derived.JoinedTies
import Derived.KernelRfl
namespace Go.Proofs.Ytceaicameojcaaa
/- THE CELL 'sum', in the pinned program and in every row, IS THE sha256 OF THE DUMP (.gsa) THAT YtceaicameojcaaaProg.lean LOADS. Nothing in Lean hashes anything: it is a label: what it is worth is what the hold of that sum in a sandbox is worth. -/
noncomputable def Try.pinned : Pinned := { name := "ytceaicameojcaaa", sum := "6f5300dc001fbfbd7cf8bdfbb5cb3a3ef8b1f22af748417b87a766ce01161896", checked := Try.checked }
namespace Rows
def none {H : Type} : Left H := { results := [], args := [] }

/-- 'corporalaw27.StrategyChooses': WHATEVER THE INPUT: true; the input reads as it did. -/
def strategyChoosesSpec : ChangeSpec := { name := "strategyChooses", fn := fun _ => fun
  | [d1, d2] => { results := [.lit (.bool true)], args := [d1, d2] }
  | _ => none }
def strategyChoosesRow : OpenClaim := { program := "ytceaicameojcaaa", sum := "6f5300dc001fbfbd7cf8bdfbb5cb3a3ef8b1f22af748417b87a766ce01161896", func := "corpora/corporalaw27.StrategyChooses", spec := "strategyChooses", unfollowed := true, recurses := true, plainKeys := false, apart := false }
def StrategyChoosesSaid : Prop := strategyChoosesRow.holds Try.pinned (OpenSpec.ofChange strategyChoosesSpec)

/-- ITS FALSE NEIGHBOUR: 'it returns false'. Refute it at one input. -/
def strategyChoosesWrong : ChangeSpec := { name := "strategyChooses", fn := fun _ => fun
  | [d1, d2] => { results := [.lit (.bool false)], args := [d1, d2] }
  | _ => none }
def StrategyChoosesWrongFalsely : Prop := strategyChoosesRow.holds Try.pinned (OpenSpec.ofChange strategyChoosesWrong)

/-- 'corporalaw27.StrategyRaw': WHATEVER THE INPUT: true; the input reads as it did. -/
def strategyRawSpec : ChangeSpec := { name := "strategyRaw", fn := fun _ => fun
  | [d1, d2] => { results := [.lit (.bool true)], args := [d1, d2] }
  | _ => none }
def strategyRawRow : OpenClaim := { program := "ytceaicameojcaaa", sum := "6f5300dc001fbfbd7cf8bdfbb5cb3a3ef8b1f22af748417b87a766ce01161896", func := "corpora/corporalaw27.StrategyRaw", spec := "strategyRaw", unfollowed := true, recurses := true, plainKeys := false, apart := false }
def StrategyRawSaid : Prop := strategyRawRow.holds Try.pinned (OpenSpec.ofChange strategyRawSpec)

/-- ITS FALSE NEIGHBOUR: 'it returns false'. Refute it at one input. -/
def strategyRawWrong : ChangeSpec := { name := "strategyRaw", fn := fun _ => fun
  | [d1, d2] => { results := [.lit (.bool false)], args := [d1, d2] }
  | _ => none }
def StrategyRawWrongFalsely : Prop := strategyRawRow.holds Try.pinned (OpenSpec.ofChange strategyRawWrong)

/-- 'corporalaw27.StrategyTwice': WHATEVER THE INPUT: true; the input reads as it did. -/
def strategyTwiceSpec : ChangeSpec := { name := "strategyTwice", fn := fun _ => fun
  | [d1, d2] => { results := [.lit (.bool true)], args := [d1, d2] }
  | _ => none }
def strategyTwiceRow : OpenClaim := { program := "ytceaicameojcaaa", sum := "6f5300dc001fbfbd7cf8bdfbb5cb3a3ef8b1f22af748417b87a766ce01161896", func := "corpora/corporalaw27.StrategyTwice", spec := "strategyTwice", unfollowed := true, recurses := true, plainKeys := false, apart := false }
def StrategyTwiceSaid : Prop := strategyTwiceRow.holds Try.pinned (OpenSpec.ofChange strategyTwiceSpec)

/-- ITS FALSE NEIGHBOUR: 'it returns false'. Refute it at one input. -/
def strategyTwiceWrong : ChangeSpec := { name := "strategyTwice", fn := fun _ => fun
  | [d1, d2] => { results := [.lit (.bool false)], args := [d1, d2] }
  | _ => none }
def StrategyTwiceWrongFalsely : Prop := strategyTwiceRow.holds Try.pinned (OpenSpec.ofChange strategyTwiceWrong)

/-- 'corporalaw27.StrategySpans': WHATEVER THE INPUT: true; the input reads as it did. -/
def strategySpansSpec : ChangeSpec := { name := "strategySpans", fn := fun _ => fun
  | [d1, d2] => { results := [.lit (.bool true)], args := [d1, d2] }
  | _ => none }
def strategySpansRow : OpenClaim := { program := "ytceaicameojcaaa", sum := "6f5300dc001fbfbd7cf8bdfbb5cb3a3ef8b1f22af748417b87a766ce01161896", func := "corpora/corporalaw27.StrategySpans", spec := "strategySpans", unfollowed := true, recurses := true, plainKeys := false, apart := false }
def StrategySpansSaid : Prop := strategySpansRow.holds Try.pinned (OpenSpec.ofChange strategySpansSpec)

/-- ITS FALSE NEIGHBOUR: 'it returns false'. Refute it at one input. -/
def strategySpansWrong : ChangeSpec := { name := "strategySpans", fn := fun _ => fun
  | [d1, d2] => { results := [.lit (.bool false)], args := [d1, d2] }
  | _ => none }
def StrategySpansWrongFalsely : Prop := strategySpansRow.holds Try.pinned (OpenSpec.ofChange strategySpansWrong)

/-- 'corporalaw27.StrategyNests': WHATEVER THE INPUT: true; the input reads as it did. -/
def strategyNestsSpec : ChangeSpec := { name := "strategyNests", fn := fun _ => fun
  | [d] => { results := [.lit (.bool true)], args := [d] }
  | _ => none }
def strategyNestsRow : OpenClaim := { program := "ytceaicameojcaaa", sum := "6f5300dc001fbfbd7cf8bdfbb5cb3a3ef8b1f22af748417b87a766ce01161896", func := "corpora/corporalaw27.StrategyNests", spec := "strategyNests", unfollowed := true, recurses := true, plainKeys := false, apart := false }
def StrategyNestsSaid : Prop := strategyNestsRow.holds Try.pinned (OpenSpec.ofChange strategyNestsSpec)

/-- ITS FALSE NEIGHBOUR: 'it returns false'. Refute it at one input. -/
def strategyNestsWrong : ChangeSpec := { name := "strategyNests", fn := fun _ => fun
  | [d] => { results := [.lit (.bool false)], args := [d] }
  | _ => none }
def StrategyNestsWrongFalsely : Prop := strategyNestsRow.holds Try.pinned (OpenSpec.ofChange strategyNestsWrong)

/-- 'corporalaw27.StrategyDisjoint': WHATEVER THE INPUT: true; the input reads as it did. -/
def strategyDisjointSpec : ChangeSpec := { name := "strategyDisjoint", fn := fun _ => fun
  | [d] => { results := [.lit (.bool true)], args := [d] }
  | _ => none }
def strategyDisjointRow : OpenClaim := { program := "ytceaicameojcaaa", sum := "6f5300dc001fbfbd7cf8bdfbb5cb3a3ef8b1f22af748417b87a766ce01161896", func := "corpora/corporalaw27.StrategyDisjoint", spec := "strategyDisjoint", unfollowed := true, recurses := true, plainKeys := false, apart := false }
def StrategyDisjointSaid : Prop := strategyDisjointRow.holds Try.pinned (OpenSpec.ofChange strategyDisjointSpec)

/-- ITS FALSE NEIGHBOUR: 'it returns false'. Refute it at one input. -/
def strategyDisjointWrong : ChangeSpec := { name := "strategyDisjoint", fn := fun _ => fun
  | [d] => { results := [.lit (.bool false)], args := [d] }
  | _ => none }
def StrategyDisjointWrongFalsely : Prop := strategyDisjointRow.holds Try.pinned (OpenSpec.ofChange strategyDisjointWrong)

/-- 'corporalaw27.StrategyLocal': WHATEVER THE INPUT: true; the input reads as it did. -/
def strategyLocalSpec : ChangeSpec := { name := "strategyLocal", fn := fun _ => fun
  | [d1, d2, d3] => { results := [.lit (.bool true)], args := [d1, d2, d3] }
  | _ => none }
def strategyLocalRow : OpenClaim := { program := "ytceaicameojcaaa", sum := "6f5300dc001fbfbd7cf8bdfbb5cb3a3ef8b1f22af748417b87a766ce01161896", func := "corpora/corporalaw27.StrategyLocal", spec := "strategyLocal", unfollowed := true, recurses := true, plainKeys := false, apart := false }
def StrategyLocalSaid : Prop := strategyLocalRow.holds Try.pinned (OpenSpec.ofChange strategyLocalSpec)

/-- ITS FALSE NEIGHBOUR: 'it returns false'. Refute it at one input. -/
def strategyLocalWrong : ChangeSpec := { name := "strategyLocal", fn := fun _ => fun
  | [d1, d2, d3] => { results := [.lit (.bool false)], args := [d1, d2, d3] }
  | _ => none }
def StrategyLocalWrongFalsely : Prop := strategyLocalRow.holds Try.pinned (OpenSpec.ofChange strategyLocalWrong)

/- THE SECOND FORM. 'bulk': how many values and letters a reading holds, each counted each time it is reached (what is shared counts as often as it is met; a slice's spare places count too). A statement '..UptoSaid' is the law's where the arguments, and the package variables that the reading takes, are together of bulk at most 1048576: NARROWER than '..Said'. Prove '..Said' where nothing that the law and all that it calls make is longer than what came in: it says more and counts as full. Else prove '..UptoSaid'. A law counts once. -/
mutual
def uptoBulk {H : Type} : DataW H → Nat
  | .lit (.string bytes) => bytes.length + 1
  | .lit _ => 1
  | .nil => 1
  | .ptr d => uptoBulk d + 1
  | .slice elems spare => uptoBulkAll elems + uptoBulkAll spare + 1
  | .agg parts => uptoBulkAll parts + 1
  | .iface _ d => uptoBulk d + 1
  | .map entries => uptoBulkEntries entries + 1
  | .held _ => 1
def uptoBulkAll {H : Type} : List (DataW H) → Nat
  | [] => 0
  | d :: r => uptoBulk d + uptoBulkAll r
def uptoBulkEntries {H : Type} : List (Lit × DataW H) → Nat
  | [] => 0
  | x :: r => uptoBulkEntry x + uptoBulkEntries r
def uptoBulkEntry {H : Type} : Lit × DataW H → Nat
  | (.string bytes, d) => bytes.length + uptoBulk d + 1
  | (_, d) => uptoBulk d + 1
 end
def uptoSmall : (H : Type) → List (DataW H) → Bool := fun _ ds => decide (uptoBulkAll ds ≤ 1048576)
def OpenSpec.upto (s : _root_.Go.ChangeSpec) : _root_.Go.OpenSpec := { _root_.Go.OpenSpec.ofChange s with cond := some uptoSmall }

/-- 'corporalaw27.StrategyChooses', WHERE WHAT IT READS IS OF BULK AT MOST 1048576: true; the input reads as it did. -/
def strategyChoosesUptoRow : OpenClaim := { program := "ytceaicameojcaaa", sum := "6f5300dc001fbfbd7cf8bdfbb5cb3a3ef8b1f22af748417b87a766ce01161896", func := "corpora/corporalaw27.StrategyChooses", spec := "strategyChooses", unfollowed := true, recurses := true, plainKeys := false, apart := false, narrowed := true }
def StrategyChoosesUptoSaid : Prop := strategyChoosesUptoRow.holds Try.pinned (OpenSpec.upto strategyChoosesSpec)

/-- 'corporalaw27.StrategyRaw', WHERE WHAT IT READS IS OF BULK AT MOST 1048576: true; the input reads as it did. -/
def strategyRawUptoRow : OpenClaim := { program := "ytceaicameojcaaa", sum := "6f5300dc001fbfbd7cf8bdfbb5cb3a3ef8b1f22af748417b87a766ce01161896", func := "corpora/corporalaw27.StrategyRaw", spec := "strategyRaw", unfollowed := true, recurses := true, plainKeys := false, apart := false, narrowed := true }
def StrategyRawUptoSaid : Prop := strategyRawUptoRow.holds Try.pinned (OpenSpec.upto strategyRawSpec)

/-- 'corporalaw27.StrategyTwice', WHERE WHAT IT READS IS OF BULK AT MOST 1048576: true; the input reads as it did. -/
def strategyTwiceUptoRow : OpenClaim := { program := "ytceaicameojcaaa", sum := "6f5300dc001fbfbd7cf8bdfbb5cb3a3ef8b1f22af748417b87a766ce01161896", func := "corpora/corporalaw27.StrategyTwice", spec := "strategyTwice", unfollowed := true, recurses := true, plainKeys := false, apart := false, narrowed := true }
def StrategyTwiceUptoSaid : Prop := strategyTwiceUptoRow.holds Try.pinned (OpenSpec.upto strategyTwiceSpec)

/-- 'corporalaw27.StrategySpans', WHERE WHAT IT READS IS OF BULK AT MOST 1048576: true; the input reads as it did. -/
def strategySpansUptoRow : OpenClaim := { program := "ytceaicameojcaaa", sum := "6f5300dc001fbfbd7cf8bdfbb5cb3a3ef8b1f22af748417b87a766ce01161896", func := "corpora/corporalaw27.StrategySpans", spec := "strategySpans", unfollowed := true, recurses := true, plainKeys := false, apart := false, narrowed := true }
def StrategySpansUptoSaid : Prop := strategySpansUptoRow.holds Try.pinned (OpenSpec.upto strategySpansSpec)

/-- 'corporalaw27.StrategyNests', WHERE WHAT IT READS IS OF BULK AT MOST 1048576: true; the input reads as it did. -/
def strategyNestsUptoRow : OpenClaim := { program := "ytceaicameojcaaa", sum := "6f5300dc001fbfbd7cf8bdfbb5cb3a3ef8b1f22af748417b87a766ce01161896", func := "corpora/corporalaw27.StrategyNests", spec := "strategyNests", unfollowed := true, recurses := true, plainKeys := false, apart := false, narrowed := true }
def StrategyNestsUptoSaid : Prop := strategyNestsUptoRow.holds Try.pinned (OpenSpec.upto strategyNestsSpec)

/-- 'corporalaw27.StrategyDisjoint', WHERE WHAT IT READS IS OF BULK AT MOST 1048576: true; the input reads as it did. -/
def strategyDisjointUptoRow : OpenClaim := { program := "ytceaicameojcaaa", sum := "6f5300dc001fbfbd7cf8bdfbb5cb3a3ef8b1f22af748417b87a766ce01161896", func := "corpora/corporalaw27.StrategyDisjoint", spec := "strategyDisjoint", unfollowed := true, recurses := true, plainKeys := false, apart := false, narrowed := true }
def StrategyDisjointUptoSaid : Prop := strategyDisjointUptoRow.holds Try.pinned (OpenSpec.upto strategyDisjointSpec)

/-- 'corporalaw27.StrategyLocal', WHERE WHAT IT READS IS OF BULK AT MOST 1048576: true; the input reads as it did. -/
def strategyLocalUptoRow : OpenClaim := { program := "ytceaicameojcaaa", sum := "6f5300dc001fbfbd7cf8bdfbb5cb3a3ef8b1f22af748417b87a766ce01161896", func := "corpora/corporalaw27.StrategyLocal", spec := "strategyLocal", unfollowed := true, recurses := true, plainKeys := false, apart := false, narrowed := true }
def StrategyLocalUptoSaid : Prop := strategyLocalUptoRow.holds Try.pinned (OpenSpec.upto strategyLocalSpec)

end Rows
end Go.Proofs.Ytceaicameojcaaa
