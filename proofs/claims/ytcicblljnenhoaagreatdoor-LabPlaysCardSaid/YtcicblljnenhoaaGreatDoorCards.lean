/-
  DERIVED. GIVEN WITH THE SEED: THE CARDS: each row of YtcicblljnenhoaaGreatDoorRows.lean that lists a variable, with what it lists TIED to the program's text (the seventh form; the later family's looks); each row that meets fmt, with fmt's text TOLD by the authors' own Lean function (tested against real Go, not proved from fmt's source: count such statements apart). THE CARD IS WHAT COUNTS. Prove the row's statement (the work); the ties are given (YtcicblljnenhoaaGreatDoorTie.lean); close each card by the builder's one call (the guide's Derived/Test/ToyasCard.lean, 'card_holds'). Laid BY PROGRAM, IN A SANDBOX (cutbox-door.mjs). By AI agents, Wed Nov 11 2026. No macro, syntax, notation, axiom, sorry.
-/
import Derived.Test.YtcicblljnenhoaaGreatDoorRows
import GoSem.ClaimSeven
namespace Go.Proofs.YtcicblljnenhoaaGreatDoor
namespace Rows

/-- THE TIED CARD OF 'salvorlaw16.LabOnward'. -/
def labOnwardCard : Claim7 := { stood := { row := labOnwardRow, standIns := [], harness := (true, "cfa91a6776d07b36e8e2e30ec352ec175e72feca25a393ea1407c419dd28b063"), looks := true }, kinds := [], alts := [], laidByText := true, laidKinds := [.pinned, .data, .data, .listed, .data, .data, .data, .data, .sentinel, .sentinel, .handle], laidTests := true, laidLooks := .later }
def LabOnwardCardSaid : Prop := Claim7.holds Tryz.pinned (.plain (OpenSpec.ofChange labOnwardSpec)) labOnwardCard

/-- THE TIED CARD OF 'salvorlaw16.LabPlays'. -/
def labPlaysCard : Claim7 := { stood := { row := labPlaysRow, standIns := [], harness := (true, "cfa91a6776d07b36e8e2e30ec352ec175e72feca25a393ea1407c419dd28b063"), looks := true }, kinds := [], alts := [], laidByText := true, laidKinds := [.pinned, .data, .data, .listed, .data, .data, .data, .data, .sentinel, .sentinel, .handle], laidTests := true, laidLooks := .later }
def LabPlaysCardSaid : Prop := Claim7.holds Tryz.pinned (.plain (OpenSpec.ofChange labPlaysSpec)) labPlaysCard

/-- THE TIED CARD OF 'salvorlaw16.LabLines'. -/
def labLinesCard : Claim7 := { stood := { row := labLinesRow, standIns := [], harness := (true, "cfa91a6776d07b36e8e2e30ec352ec175e72feca25a393ea1407c419dd28b063"), looks := true }, kinds := [], alts := [], laidByText := true, laidKinds := [.pinned, .data, .data, .listed, .data, .data, .data, .data, .sentinel, .sentinel, .handle], laidTests := true, laidLooks := .later }
def LabLinesCardSaid : Prop := Claim7.holds Tryz.pinned (.plain (OpenSpec.ofChange labLinesSpec)) labLinesCard

/-- THE SECOND FORM's CARD OF 'salvorlaw16.LabOnward'. -/
def labOnwardUptoCard : Claim7 := { stood := { row := labOnwardUptoRow, standIns := [], harness := (true, "cfa91a6776d07b36e8e2e30ec352ec175e72feca25a393ea1407c419dd28b063"), looks := true }, kinds := [], alts := [], laidByText := true, laidKinds := [.pinned, .data, .data, .listed, .data, .data, .data, .data, .sentinel, .sentinel, .handle], laidTests := true, laidLooks := .later }
def LabOnwardUptoCardSaid : Prop := Claim7.holds Tryz.pinned (.plain (OpenSpec.upto labOnwardSpec)) labOnwardUptoCard

/-- THE SECOND FORM's CARD OF 'salvorlaw16.LabPlays'. -/
def labPlaysUptoCard : Claim7 := { stood := { row := labPlaysUptoRow, standIns := [], harness := (true, "cfa91a6776d07b36e8e2e30ec352ec175e72feca25a393ea1407c419dd28b063"), looks := true }, kinds := [], alts := [], laidByText := true, laidKinds := [.pinned, .data, .data, .listed, .data, .data, .data, .data, .sentinel, .sentinel, .handle], laidTests := true, laidLooks := .later }
def LabPlaysUptoCardSaid : Prop := Claim7.holds Tryz.pinned (.plain (OpenSpec.upto labPlaysSpec)) labPlaysUptoCard

/-- THE SECOND FORM's CARD OF 'salvorlaw16.LabLines'. -/
def labLinesUptoCard : Claim7 := { stood := { row := labLinesUptoRow, standIns := [], harness := (true, "cfa91a6776d07b36e8e2e30ec352ec175e72feca25a393ea1407c419dd28b063"), looks := true }, kinds := [], alts := [], laidByText := true, laidKinds := [.pinned, .data, .data, .listed, .data, .data, .data, .data, .sentinel, .sentinel, .handle], laidTests := true, laidLooks := .later }
def LabLinesUptoCardSaid : Prop := Claim7.holds Tryz.pinned (.plain (OpenSpec.upto labLinesSpec)) labLinesUptoCard
end Rows
end Go.Proofs.YtcicblljnenhoaaGreatDoor
