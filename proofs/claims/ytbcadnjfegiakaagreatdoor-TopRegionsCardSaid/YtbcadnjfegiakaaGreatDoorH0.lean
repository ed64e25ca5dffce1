/- the facts of the row Regions, each by itself: one theorem for all of them takes more memory than the kernel gets. -/
import Derived.Test.YtbcadnjfegiakaaGreatDoorRows
import Derived.Test.YtbcadnjfegiakaaGreatDoorCards
import Derived.JoinedOf
import Derived.SevenTiedAt
import Derived.KernelRfl
import Derived.Test.YtbcadnjfegiakaaGreatDoorG1
namespace Go.Proofs.YtbcadnjfegiakaaGreatDoor
open Go
set_option maxRecDepth 100000
theorem topRegions_f1 : (Rows.topRegionsRow.inPlace == Tryz.prog.inPlace 3) = true := by kernel_rfl
theorem topRegions_f2 : (Rows.topRegionsRow.unfollowed == Tryz.prog.unfollowed 3) = true := by kernel_rfl
theorem topRegions_f3 : (Rows.topRegionsRow.recurses == Tryz.prog.recurses 3) = true := by kernel_rfl
theorem topRegions_f4 : (Rows.topRegionsRow.named == Tryz.prog.varsNamed 3) = true := by kernel_rfl
theorem topRegions_facts : joinedFacts Tryz.prog 3 Tryz.f3 Rows.topRegionsSpec Rows.topRegionsRow = true := by
  unfold joinedFacts
  rw [topRegions_f1, topRegions_f2, topRegions_f3, topRegions_f4]
  kernel_rfl
theorem topRegions_name : Tryz.prog.funcNamed Rows.topRegionsRow.func = some 3 := by kernel_rfl
theorem topRegions_inst : Tryz.f3.isInstance Tryz.prog Rows.topRegionsRow.origin Rows.topRegionsRow.targs := of_decide_eq_true (by kernel_rfl)
theorem topRegions_looks : true = Tryz.prog.looks [] := by kernel_rfl
theorem topRegions_goes : false = Rows.topRegionsRow.goesBy Tryz.prog := by kernel_rfl
theorem topRegions_wf : Rows.topRegionsRow.wfByText (OpenSpec.ofChange Rows.topRegionsSpec) = true := by kernel_rfl
theorem topRegions_main : Tryz.prog.mainIs = some (true, ("a6d503273bbdac5eb450c333bce756f12e0c5ec672ac083a1232e88e75f02712" : String).toList) := by kernel_rfl
end Go.Proofs.YtbcadnjfegiakaaGreatDoor
