/- the facts of the row Codes, each by itself: one theorem for all of them takes more memory than the kernel gets. -/
import Derived.Test.YtecogbhbkccblaaGreatDoorRows
import Derived.Test.YtecogbhbkccblaaGreatDoorCards
import Derived.JoinedOf
import Derived.SevenTiedAt
import Derived.KernelRfl
import Derived.Test.YtecogbhbkccblaaGreatDoorG1
set_option linter.all false
namespace Go.Proofs.YtecogbhbkccblaaGreatDoor
open Go
set_option maxRecDepth 100000
theorem topCodes_f1 : (Rows.topCodesRow.inPlace == Tryz.prog.inPlace 3) = true := by kernel_rfl
theorem topCodes_f2 : (Rows.topCodesRow.unfollowed == Tryz.prog.unfollowed 3) = true := by kernel_rfl
theorem topCodes_f3 : (Rows.topCodesRow.recurses == Tryz.prog.recurses 3) = true := by kernel_rfl
theorem topCodes_f4 : (Rows.topCodesRow.named == Tryz.prog.varsNamed 3) = true := by kernel_rfl
theorem topCodes_facts : joinedFacts Tryz.prog 3 Tryz.f3 Rows.topCodesSpec Rows.topCodesRow = true := by
  unfold joinedFacts
  rw [topCodes_f1, topCodes_f2, topCodes_f3, topCodes_f4]
  kernel_rfl
theorem topCodes_name : Tryz.prog.funcNamed Rows.topCodesRow.func = some 3 := by kernel_rfl
theorem topCodes_inst : Tryz.f3.isInstance Tryz.prog Rows.topCodesRow.origin Rows.topCodesRow.targs := of_decide_eq_true zK
theorem topCodes_looks : true = Tryz.prog.looks [] := by kernel_rfl
theorem topCodes_goes : false = Rows.topCodesRow.goesBy Tryz.prog := by kernel_rfl
theorem topCodes_wf : Rows.topCodesRow.wfByText (OpenSpec.ofChange Rows.topCodesSpec) = true := by kernel_rfl
theorem topCodes_main : Tryz.prog.mainIs = some (true, ("827e50e9f196d03b786f99bead7013d63c7949914fe19532c2f3cbf285545106" : String).toList) := by kernel_rfl
end Go.Proofs.YtecogbhbkccblaaGreatDoor
