/- A part of the card: closed facts of the program and of the row. -/
import Derived.Test.YtcicblljnenhoaaGreatDoorRows
import Derived.JoinedOf
import Derived.SevenTiedAt
namespace Go.Proofs.YtcicblljnenhoaaGreatDoor
open Go
set_option maxRecDepth 100000
theorem c_laid : laidOutB Tryz.pinned.checked.prog = true := by kernel_rfl
theorem c_maps : mapsRowed Tryz.pinned.checked.prog = true := by kernel_rfl
theorem c_heard : Tryz.pinned.checked.prog.stopsHeard = true := by kernel_rfl
theorem c_enter : Tryz.pinned.checked.prog.mayEnter = true := by kernel_rfl
theorem c_goes : Tryz.pinned.checked.prog.funcs.any Func.goes = false := by kernel_rfl
theorem c_main : Tryz.pinned.checked.prog.mainIs = some (true, "cfa91a6776d07b36e8e2e30ec352ec175e72feca25a393ea1407c419dd28b063".toList) := by kernel_rfl
theorem c_looks : true = Tryz.pinned.checked.prog.looks [] := by kernel_rfl
theorem c_first : Tryz.pinned.checked.prog.pinnedFits "unicode/utf8.first" = true := by kernel_rfl
end Go.Proofs.YtcicblljnenhoaaGreatDoor
