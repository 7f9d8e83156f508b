/- A part of the card: closed facts of the program and of the row. -/
import Derived.Test.YtcicblljnenhoaaGreatDoorTa
namespace Go.Proofs.YtcicblljnenhoaaGreatDoor
open Go
set_option maxRecDepth 100000
theorem tie_hw : Tryz.prog.worded (varsWordLater true) = true := by kernel_rfl
theorem tie_hw2 : Tryz.prog.worded (varsWordLater !true) = false := by kernel_rfl
theorem tie_hroot : Tryz.prog.worded rootWordLater = true := by kernel_rfl
theorem tie_hk : tieL.map (fun x => Tryz.prog.kindOfLater x.1) = tieK.map some := by kernel_rfl
theorem tie_hg : (Tryz.prog.funcNamed "gosem.cut.vars").isSome = true := by kernel_rfl
theorem tie_hn : varsNamedLaterB Tryz.prog (varsId Tryz.prog) tieL = true := by kernel_rfl
end Go.Proofs.YtcicblljnenhoaaGreatDoor
