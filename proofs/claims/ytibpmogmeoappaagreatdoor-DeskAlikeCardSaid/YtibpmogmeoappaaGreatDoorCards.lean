/-
  DERIVED. GIVEN WITH THE SEED: THE CARDS: each row of YtibpmogmeoappaaGreatDoorRows.lean that lists a variable, with what it lists TIED to the program's text (the seventh form; the later family's looks); each row that meets fmt, with fmt's text TOLD by the authors' own Lean function (tested against real Go, not proved from fmt's source: count such statements apart). THE CARD IS WHAT COUNTS. Prove the row's statement (the work); the ties are given (YtibpmogmeoappaaGreatDoorTie.lean); close each card by the builder's one call (the guide's Derived/Test/ToyasCard.lean, 'card_holds'). Laid BY PROGRAM, IN A SANDBOX (cutbox-door.mjs). By AI agents, Wed Nov 11 2026. No macro, syntax, notation, axiom, sorry.
-/
import Derived.Test.YtibpmogmeoappaaGreatDoorRows
import GoSem.ClaimSeven
namespace Go.Proofs.YtibpmogmeoappaaGreatDoor
namespace Rows

/-- THE TIED CARD OF 'underpaintlaw.DeskDraws'. -/
def deskDrawsCard : Claim7 := { stood := { row := deskDrawsRow, standIns := [], harness := (true, "52af445ddccd59b908070cb8956061e90e91b90ecf7007f39c6f6ae779dcfcc2"), looks := false }, kinds := [], alts := [], laidByText := true, laidKinds := [.data, .data, .data], laidTests := true, laidLooks := .later }
def DeskDrawsCardSaid : Prop := Claim7.holds Tryz.pinned (.plain (OpenSpec.ofChange deskDrawsSpec)) deskDrawsCard

/-- THE TIED CARD OF 'underpaintlaw.DeskAlike'. -/
def deskAlikeCard : Claim7 := { stood := { row := deskAlikeRow, standIns := [], harness := (true, "52af445ddccd59b908070cb8956061e90e91b90ecf7007f39c6f6ae779dcfcc2"), looks := false }, kinds := [], alts := [], laidByText := true, laidKinds := [.data, .data, .data], laidTests := true, laidLooks := .later }
def DeskAlikeCardSaid : Prop := Claim7.holds Tryz.pinned (.plain (OpenSpec.ofChange deskAlikeSpec)) deskAlikeCard

/-- THE SECOND FORM's CARD OF 'underpaintlaw.DeskDraws'. -/
def deskDrawsUptoCard : Claim7 := { stood := { row := deskDrawsUptoRow, standIns := [], harness := (true, "52af445ddccd59b908070cb8956061e90e91b90ecf7007f39c6f6ae779dcfcc2"), looks := false }, kinds := [], alts := [], laidByText := true, laidKinds := [.data, .data, .data], laidTests := true, laidLooks := .later }
def DeskDrawsUptoCardSaid : Prop := Claim7.holds Tryz.pinned (.plain (OpenSpec.upto deskDrawsSpec)) deskDrawsUptoCard

/-- THE SECOND FORM's CARD OF 'underpaintlaw.DeskAlike'. -/
def deskAlikeUptoCard : Claim7 := { stood := { row := deskAlikeUptoRow, standIns := [], harness := (true, "52af445ddccd59b908070cb8956061e90e91b90ecf7007f39c6f6ae779dcfcc2"), looks := false }, kinds := [], alts := [], laidByText := true, laidKinds := [.data, .data, .data], laidTests := true, laidLooks := .later }
def DeskAlikeUptoCardSaid : Prop := Claim7.holds Tryz.pinned (.plain (OpenSpec.upto deskAlikeSpec)) deskAlikeUptoCard
end Rows
end Go.Proofs.YtibpmogmeoappaaGreatDoor
