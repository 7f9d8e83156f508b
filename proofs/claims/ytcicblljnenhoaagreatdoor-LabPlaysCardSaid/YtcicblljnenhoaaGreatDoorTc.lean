/- A part of the card: closed facts of the program and of the row. -/
import Derived.Test.YtcicblljnenhoaaGreatDoorTa
namespace Go.Proofs.YtcicblljnenhoaaGreatDoor
open Go
set_option maxRecDepth 100000
theorem tie_run : ∀ os tape, doorLeaves Tryz.prog 111 8 257 tieL os tape = some (tieL.filter fun x => x.2.handleName?.isNone, (funcsListed tieL).map (·.2.funcsOut)) := fun _ _ => by kernel_rfl
end Go.Proofs.YtcicblljnenhoaaGreatDoor
