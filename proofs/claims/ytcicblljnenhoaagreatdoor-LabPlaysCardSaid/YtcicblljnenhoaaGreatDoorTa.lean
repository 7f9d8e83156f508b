/- A part of the card: closed facts of the program and of the row. -/
import Derived.Test.YtcicblljnenhoaaGreatDoorCards
import Derived.LaidByTextLater
import Derived.LaidOnce
namespace Go.Proofs.YtcicblljnenhoaaGreatDoor
open Go
set_option maxRecDepth 100000
def tieL : List (String × DataW Unit) := ((Rows.labOnwardRow.laid.zip Rows.labOnwardCard.laidKinds).filter (·.2 != .pinned)).map (·.1)
def tieK : List LaidKind := Rows.labOnwardCard.laidKinds.filter (· != .pinned)
end Go.Proofs.YtcicblljnenhoaaGreatDoor
