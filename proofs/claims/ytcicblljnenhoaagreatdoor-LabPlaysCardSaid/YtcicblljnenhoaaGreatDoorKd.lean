/- A part of the card: closed facts of the program and of the row. -/
import Derived.Test.YtcicblljnenhoaaGreatDoorKb
import Derived.Test.YtcicblljnenhoaaGreatDoorTb
import Derived.Test.YtcicblljnenhoaaGreatDoorTc
import Derived.LaidSub
import Derived.Test.YtcicblljnenhoaaGreatDoorCards
namespace Go.Proofs.YtcicblljnenhoaaGreatDoor
open Go
set_option maxRecDepth 100000
theorem tie1 : Tryz.prog.laidByTextLater tieL tieK true :=
  Program.laidByTextLater_by_one 111 8 257 tie_hw tie_hw2 tie_hroot tie_hk tie_hg tie_hn tie_run
theorem pin_laid_unicode_utf8_first : Tryz.pinned.checked.prog.pinnedFits "unicode/utf8.first" = true := c_first
theorem noOwnUnsafe : Tryz.pinned.checked.prog.headLifts.contains "ownunsafe" = false := by kernel_rfl
theorem fits1 : Tryz.pinned.checked.prog.listedFits Rows.labOnwardRow.laid = true := by
  unfold Program.listedFits
  rw [noOwnUnsafe]
  kernel_rfl
end Go.Proofs.YtcicblljnenhoaaGreatDoor
